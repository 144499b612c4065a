-- Made by xprint.py (this session's own driver of the kit's print) out of the translation; Lean checks it.
import Derived.Test.YtfhjndnempmcaaaXx0
import Derived.Test.YtfhjndnempmcaaaXx3
import Derived.Test.YtfhjndnempmcaaaXx6
import Derived.Test.YtfhjndnempmcaaaXx8
namespace Go.Proofs.Ytfhjndnempmcaaa.X
open Go.Proofs.Ytfhjndnempmcaaa
open Go.RowKit Go.Proofs.YtfhjndnempmcaaaW.PrintWords Go.Proofs.YtfhjndnempmcaaaW.PrintLast Go.Proofs.YtfhjndnempmcaaaW.PrintMore
attribute [local go_sem] max2_int min2_int max_two min_two max_three min_three max_four min_four   -- for this text's walks alone
set_option linter.unusedVariables false
set_option linter.unusedSimpArgs false

/-! ### limnerlaw03_GeomTurns: function 4 -/
mutual
def limnerlaw03_GeomTurns.j0 : Nat → List (S24) → Int → Bool → Int → Int → Option (Bool)
  | 0, _, _, _, _, _ => none
  | k + 1, x0, x2, x42, x252000, x252001 => if x42 = true then ((limnerlaw03_awake.f k).bind fun t257 => (some t257)) else ((geom_Winds.f k x0 x252000 x252001).bind fun t258 => (limnerlaw03_GeomTurns.l0 k x0 x2 t258 ([] : List (S24)) (x0.length : Int) 0 x252000 x252001))
def limnerlaw03_GeomTurns.l0 : Nat → List (S24) → Int → Int → List (S24) → Int → Int → Int → Int → Option (Bool)
  | 0, _, _, _, _, _, _, _, _ => none
  | k + 1, x0, x2, x7, x8, x48, x49, x252000, x252001 => if x49 < x48 then (if 0 ≤ (wrap64 ((wrap64 ((x0.length : Int) - 1)) - x49)) then (if (wrap64 ((wrap64 ((x0.length : Int) - 1)) - x49)) < (x0.length : Int) then ((some (([(⟨(rd_T24 x0 (wrap64 ((wrap64 ((x0.length : Int) - 1)) - x49))).f0, (rd_T24 x0 (wrap64 ((wrap64 ((x0.length : Int) - 1)) - x49))).f1⟩ : S24)] : List (S24)) : List (S24))).bind fun y260 => (if x8.length + y260.length < 8796093022208 then (limnerlaw03_GeomTurns.l0 k x0 x2 x7 (x8 ++ y260) x48 (wrap64 (x49 + 1)) x252000 x252001) else (none))) else (none)) else (none)) else ((some (([] : List (S24)) : List (S24))).bind fun y266 => (if 0 ≤ x2 then (if x2 ≤ (x0.length : Int) then ((some (x0.drop (x2 : Int).toNat : List (S24))).bind fun y269 => (if y266.length + y269.length < 8796093022208 then ((some (y266 ++ y269 : List (S24))).bind fun y273 => ((some (x0.take (x2 : Int).toNat : List (S24))).bind fun y276 => (if y273.length + y276.length < 8796093022208 then ((some (([] : List (S24)) : List (S24))).bind fun y283 => (if y283.length + x0.length < 8796093022208 then ((some (y283 ++ x0 : List (S24))).bind fun y286 => (if 0 ≤ (wrap64 ((x0.length : Int) - 1)) then (if (wrap64 ((x0.length : Int) - 1)) < (x0.length : Int) then ((some (([(⟨(rd_T24 x0 (wrap64 ((x0.length : Int) - 1))).f0, (rd_T24 x0 (wrap64 ((x0.length : Int) - 1))).f1⟩ : S24)] : List (S24)) : List (S24))).bind fun y290 => (if y286.length + y290.length < 8796093022208 then ((some (([] : List (S24)) : List (S24))).bind fun y296 => (if 0 ≤ (wrap64 (x2 + 1)) then (if (wrap64 (x2 + 1)) ≤ (x0.length : Int) then ((some (x0.take ((wrap64 (x2 + 1)) : Int).toNat : List (S24))).bind fun y299 => (if y296.length + y299.length < 8796093022208 then (if 0 < (x0.length : Int) then ((some (([(⟨(rd_T24 x0 0).f0, (rd_T24 x0 0).f1⟩ : S24)] : List (S24)) : List (S24))).bind fun y307 => (if y307.length + y269.length < 8796093022208 then ((geom_Winds.f k x8 x252000 x252001).bind fun t317 => (if t317 = (wrap64 (-x7)) then ((geom_Winds.f k (y273 ++ y276) x252000 x252001).bind fun t318 => (if t318 = x7 then ((geom_Winds.f k (y286 ++ y290) x252000 x252001).bind fun t319 => (if t319 = x7 then ((geom_Winds.f k (y296 ++ y299) x252000 x252001).bind fun t320 => ((geom_Winds.f k (y307 ++ y269) x252000 x252001).bind fun t321 => (if (wrap64 (t320 + t321)) = x7 then ((limnerlaw03_awake.f k).bind fun t322 => (some t322)) else (none)))) else (none))) else (none))) else (none))) else (none))) else (none)) else (none))) else (none)) else (none))) else (none))) else (none)) else (none))) else (none))) else (none)))) else (none))) else (none)) else (none)))
end
def limnerlaw03_GeomTurns.f (k : Nat) (l0 : List (S24)) (a1_0 : Int) (a1_1 : Int) (a2 : Int) : Option (Bool) := if (l0.length : Int) > 60 then (limnerlaw03_GeomTurns.j0 k l0 a2 true a1_0 a1_1) else (if (l0.length : Int) = 0 then (limnerlaw03_GeomTurns.j0 k l0 a2 true a1_0 a1_1) else ((limnerlaw03_in.f k l0).bind fun t252 => (if t252 = true then ((limnerlaw03_in.f k (([(⟨a1_0, a1_1⟩ : S24)] : List (S24)))).bind fun t256 => (if t256 = true then (if a2 < 0 then (limnerlaw03_GeomTurns.j0 k l0 a2 true a1_0 a1_1) else (limnerlaw03_GeomTurns.j0 k l0 a2 (decide (a2 ≥ (l0.length : Int))) a1_0 a1_1)) else (limnerlaw03_GeomTurns.j0 k l0 a2 true a1_0 a1_1))) else (limnerlaw03_GeomTurns.j0 k l0 a2 true a1_0 a1_1))))
theorem limnerlaw03_GeomTurns.mono_l : ∀ k, (∀ y0 y1 y2 y3 y4, LeO (limnerlaw03_GeomTurns.j0 k y0 y1 y2 y3 y4) (limnerlaw03_GeomTurns.j0 (k + 1) y0 y1 y2 y3 y4)) ∧ (∀ y0 y1 y2 y3 y4 y5 y6 y7, LeO (limnerlaw03_GeomTurns.l0 k y0 y1 y2 y3 y4 y5 y6 y7) (limnerlaw03_GeomTurns.l0 (k + 1) y0 y1 y2 y3 y4 y5 y6 y7))
  | 0 => ⟨fun _ _ _ _ _ r h => by simp [limnerlaw03_GeomTurns.j0] at h, fun _ _ _ _ _ _ _ _ r h => by simp [limnerlaw03_GeomTurns.l0] at h⟩
  | k + 1 => by
    obtain ⟨ih0, ih1⟩ := limnerlaw03_GeomTurns.mono_l k
    refine ⟨?_, ?_⟩
    · intro y0 y1 y2 y3 y4
      unfold limnerlaw03_GeomTurns.j0
      repeat' first
      | (with_reducible exact ih0 _ _ _ _ _)
      | (with_reducible exact ih1 _ _ _ _ _ _ _ _)
      | (with_reducible exact geom_Winds.mono _ _ _ _)
      | (with_reducible exact limnerlaw03_awake.mono _)
      | (with_reducible exact limnerlaw03_in.mono _ _)
      | (with_reducible exact LeO.refl _)
      | (with_reducible exact LeO.none _)
      | (with_reducible refine LeO.ite ?_ ?_)
      | (with_reducible refine LeO.bind ?_ (fun _ => ?_))
      | exact ih0 _ _ _ _ _
      | exact ih1 _ _ _ _ _ _ _ _
      | exact geom_Winds.mono _ _ _ _
      | exact limnerlaw03_awake.mono _
      | exact limnerlaw03_in.mono _ _
      | exact LeO.none _
      | refine LeO.ite ?_ ?_
      | refine LeO.bind ?_ (fun _ => ?_)
    · intro y0 y1 y2 y3 y4 y5 y6 y7
      unfold limnerlaw03_GeomTurns.l0
      repeat' first
      | (with_reducible exact ih0 _ _ _ _ _)
      | (with_reducible exact ih1 _ _ _ _ _ _ _ _)
      | (with_reducible exact geom_Winds.mono _ _ _ _)
      | (with_reducible exact limnerlaw03_awake.mono _)
      | (with_reducible exact limnerlaw03_in.mono _ _)
      | (with_reducible exact LeO.refl _)
      | (with_reducible exact LeO.none _)
      | (with_reducible refine LeO.ite ?_ ?_)
      | (with_reducible refine LeO.bind ?_ (fun _ => ?_))
      | exact ih0 _ _ _ _ _
      | exact ih1 _ _ _ _ _ _ _ _
      | exact geom_Winds.mono _ _ _ _
      | exact limnerlaw03_awake.mono _
      | exact limnerlaw03_in.mono _ _
      | exact LeO.none _
      | refine LeO.ite ?_ ?_
      | refine LeO.bind ?_ (fun _ => ?_)
theorem limnerlaw03_GeomTurns.mono : ∀ a0 a1 a2 a3 k, LeO (limnerlaw03_GeomTurns.f k a0 a1 a2 a3) (limnerlaw03_GeomTurns.f (k + 1) a0 a1 a2 a3) := by
  intro a0 a1 a2 a3 k
  obtain ⟨ih0, ih1⟩ := limnerlaw03_GeomTurns.mono_l k
  unfold limnerlaw03_GeomTurns.f
  repeat' first
      | (with_reducible exact ih0 _ _ _ _ _)
      | (with_reducible exact ih1 _ _ _ _ _ _ _ _)
      | (with_reducible exact geom_Winds.mono _ _ _ _)
      | (with_reducible exact limnerlaw03_awake.mono _)
      | (with_reducible exact limnerlaw03_in.mono _ _)
      | (with_reducible exact LeO.refl _)
      | (with_reducible exact LeO.none _)
      | (with_reducible refine LeO.ite ?_ ?_)
      | (with_reducible refine LeO.bind ?_ (fun _ => ?_))
      | exact ih0 _ _ _ _ _
      | exact ih1 _ _ _ _ _ _ _ _
      | exact geom_Winds.mono _ _ _ _
      | exact limnerlaw03_awake.mono _
      | exact limnerlaw03_in.mono _ _
      | exact LeO.none _
      | refine LeO.ite ?_ ?_
      | refine LeO.bind ?_ (fun _ => ?_)
def limnerlaw03_GeomTurns.T10 : Bool × List (List Nat × List Nat) := (true, [([], []), ([], []), ([], []), ([1, 2], [1, 2]), ([0, 3], [0, 3]), ([], []), ([], []), ([5, 6], [5, 6]), ([4, 7, 4], [4, 7]), ([8, 8, 0, 1, 2, 3, 4, 5, 6, 7, 8], [8])])
def limnerlaw03_GeomTurns.B10 : List Nat := [0, 0, 0, 6, 15, 0, 0, 96, 255, 511]
theorem limnerlaw03_GeomTurns.tab10 : rtab .any (opsOf Try.f4 10) = limnerlaw03_GeomTurns.T10 := by kernel_rfl
theorem limnerlaw03_GeomTurns.bits10 : waitsOk limnerlaw03_GeomTurns.T10.2 limnerlaw03_GeomTurns.B10 = true := by kernel_rfl
def limnerlaw03_GeomTurns.T11 : Bool × List (List Nat × List Nat) := (true, [([], []), ([], []), ([0, 1], [0, 1]), ([], []), ([], []), ([4], [4]), ([5], [5]), ([3, 6], [3, 6]), ([7], [7]), ([8], [8]), ([2, 9, 2], [2, 9]), ([10, 10, 0, 1, 2, 3, 4, 5, 6, 7, 8, 9, 10], [10])])
def limnerlaw03_GeomTurns.B11 : List Nat := [0, 0, 3, 0, 0, 16, 48, 120, 248, 504, 1023, 2047]
theorem limnerlaw03_GeomTurns.tab11 : rtab .any (opsOf Try.f4 11) = limnerlaw03_GeomTurns.T11 := by kernel_rfl
theorem limnerlaw03_GeomTurns.bits11 : waitsOk limnerlaw03_GeomTurns.T11.2 limnerlaw03_GeomTurns.B11 = true := by kernel_rfl
def limnerlaw03_GeomTurns.T13 : Bool × List (List Nat × List Nat) := (true, [([], []), ([0], [0]), ([1], [1]), ([2], [2]), ([], []), ([], []), ([4, 5], [4, 5]), ([3, 6], [3, 6]), ([7, 7, 0, 1, 2, 3, 4, 5, 6, 7], [7])])
def limnerlaw03_GeomTurns.B13 : List Nat := [0, 1, 3, 7, 0, 0, 48, 127, 255]
theorem limnerlaw03_GeomTurns.tab13 : rtab .any (opsOf Try.f4 13) = limnerlaw03_GeomTurns.T13 := by kernel_rfl
theorem limnerlaw03_GeomTurns.bits13 : waitsOk limnerlaw03_GeomTurns.T13.2 limnerlaw03_GeomTurns.B13 = true := by kernel_rfl
def limnerlaw03_GeomTurns.T14 : Bool × List (List Nat × List Nat) := (true, [([], []), ([], []), ([0, 1], [0, 1]), ([], []), ([3], [3]), ([2, 4], [2, 4]), ([5, 2], [5]), ([6], [6]), ([6], [6]), ([7, 8, 6, 6], [6, 7, 8]), ([6], [6]), ([9, 10, 6], [6, 9, 10]), ([6, 11], [6, 11]), ([12, 9], [12]), ([13], [13]), ([13], [13]), ([14, 15, 13, 13], [13, 14, 15]), ([13], [13]), ([16, 17, 13], [13, 16, 17]), ([13, 18], [13, 18]), ([19, 16], [19]), ([20], [20]), ([20], [20]), ([21, 22, 20, 20], [20, 21, 22]), ([20], [20]), ([20], [20]), ([24, 25, 23, 20], [20, 24, 25]), ([23, 26, 20], [20, 23, 26]), ([20], [20]), ([27, 28, 20], [20, 27, 28]), ([20, 29], [20, 29]), ([30, 26], [30]), ([31, 31], [31]), ([31, 32], [31, 32]), ([33, 32, 0, 1, 2, 3, 4, 5, 6, 7, 8, 9, 10, 11, 12, 13, 14, 15, 16, 17, 18, 19, 20, 21, 22, 23, 24, 25, 26, 27, 28, 29, 30, 31, 32, 33], [33])])
def limnerlaw03_GeomTurns.B14 : List Nat := [0, 0, 3, 0, 8, 31, 63, 127, 127, 511, 127, 2047, 4095, 8191, 16383, 16383, 65535, 16383, 262143, 524287, 1048575, 2097151, 2097151, 8388607, 2097151, 2097151, 67108863, 134217727, 2097151, 536870911, 1073741823, 2147483647, 4294967295, 8589934591, 17179869183]
theorem limnerlaw03_GeomTurns.tab14 : rtab .any (opsOf Try.f4 14) = limnerlaw03_GeomTurns.T14 := by kernel_rfl
theorem limnerlaw03_GeomTurns.bits14 : waitsOk limnerlaw03_GeomTurns.T14.2 limnerlaw03_GeomTurns.B14 = true := by kernel_rfl
set_option maxHeartbeats 8000000 in
set_option maxRecDepth 100000 in
theorem limnerlaw03_GeomTurns.calls (k : Nat) (A0 : Option Addr) (c0 : Nat) (l0 : List (S24)) (a1_0 : Int) (a1_1 : Int) (a2 : Int) (r : Bool) (w : World) (hr0 : Kd.C k24 w A0 l0.length l0) (hc0 : l0.length ≤ c0) (h : limnerlaw03_GeomTurns.f k l0 a1_0 a1_1 a2 = some r) :
    Calls Try.prog 4 #[.slice A0 l0.length c0, .agg #[.int .i64 a1_0, .int .i64 a1_1], .int .i64 a2] w fun e w' => e = .returned (.bool r) ∧ Below w.heap.size w w' := by
  have hu24 := Try.underlying24
  have HR0 := Aside0.mk hr0
  have HC0 := Aside0.mk hc0
  clear hr0 hc0
  have HB := Aside0.mk (Below.refl w.heap.size w)
  have H : (if (l0.length : Int) > 60 then (limnerlaw03_GeomTurns.j0 k l0 a2 true a1_0 a1_1) else (if (l0.length : Int) = 0 then (limnerlaw03_GeomTurns.j0 k l0 a2 true a1_0 a1_1) else ((limnerlaw03_in.f k l0).bind fun t252 => (if t252 = true then ((limnerlaw03_in.f k (([(⟨a1_0, a1_1⟩ : S24)] : List (S24)))).bind fun t256 => (if t256 = true then (if a2 < 0 then (limnerlaw03_GeomTurns.j0 k l0 a2 true a1_0 a1_1) else (limnerlaw03_GeomTurns.j0 k l0 a2 (decide (a2 ≥ (l0.length : Int))) a1_0 a1_1)) else (limnerlaw03_GeomTurns.j0 k l0 a2 true a1_0 a1_1))) else (limnerlaw03_GeomTurns.j0 k l0 a2 true a1_0 a1_1))))) = some r := h
  clear h
  have HC4 := Aside0.mk H
  clear H
  go_enter Try.func4, Try.ntmps4
  go_upto_region 1 with (first | ((with_reducible refine gate_dst (N := 4) rfl ?_); (try (refine gate_guard (by rfl) ?_; dsimp only)); refine box_event ?hg (N := 4) ?hd (cs := #[.int .i64 a1_0, .int .i64 a1_1]) (t := 24) ?hr ?_; (case hd => rfl); (case hg => rfl); (case hr => first | (go_simp; done) | (go_simp; rfl)); intro gb251 hg w5 hbox hb; have n0_ := Aside0.mk (below_step (by repeat (first | (with_reducible first | exact HB.out | apply below_alloc | apply pw_below_drewN | apply below_drew1) | exact HB.out)) hb); have n1_ := Aside0.mk (hbox); have n2_ := Aside0.mk ((by rw [hg]; exact (below_size (by repeat (first | (with_reducible first | exact HB.out | apply below_alloc | apply pw_below_drewN | apply below_drew1) | exact HB.out))) : w.heap.size ≤ gb251)); have n3_ := Aside0.mk ((by rw [hg]; exact (below_size (by repeat (first | (with_reducible first | exact HB.out | apply below_alloc | apply pw_below_drewN | apply below_drew1) | exact HB.out))) : w.heap.size ≤ gb251)); clear HB; have HB := n0_; have BK251 := n1_; have GW251 := n2_; have GE251 := n3_; clear n0_ n1_ n2_ n3_; clear hb hbox hg))
  (try simp only [Act.put, List.setIfInBounds_toArray, List.set_cons_zero, List.set_cons_succ])
  go_cut [42] (fun v42 wc => ∃ (kq : Nat) (x42_3 : Bool), v42 = .bool x42_3 ∧ Aside0 (limnerlaw03_GeomTurns.j0 kq l0 a2 x42_3 a1_0 a1_1 = some r) ∧ Aside0 (kq ≤ k) ∧ Aside0 (wc.heap[gb251]? = some (.cells #[.int .i64 a1_0, .int .i64 a1_1] 24 (0, 0))) ∧ Aside0 (Below w.heap.size w wc))
  case first =>
    have H := HC4.out
    clear HC4
    by_cases c6 : (l0.length : Int) > 60
    · rw [if_pos c6] at H
      have c6b0 : decide (60 < (l0.length : Int)) = true := decide_eq_true c6
      have c6b1 : decide (60 < l0.length) = true := decide_eq_true (by omega)
      clear c6
      (first | rw [c6b0] | (simp only [i64_w, i32_w]; rw [c6b0]) | skip)
      have H' := Aside0.mk H
      clear H
      go_wp2
      go_meet
      case rel => exact ⟨_, (true), (by first | rfl | (simp; done) | (simp [*]; done)), H', ⟨by first | omega | exact Nat.le_refl _⟩, ⟨by (with_reducible repeat (first | refine blk_drewN ?_ _ | refine blk_drew ?_ | refine blk_alloc ?_ _)); exact BK251.out⟩, ⟨by repeat (first | (with_reducible first | exact HB.out | apply below_alloc | apply pw_below_drewN | apply below_drew1 | refine below_set ?_ GE251.out) | exact HB.out)⟩⟩
    · rw [if_neg c6] at H
      have c6b0 : decide (60 < (l0.length : Int)) = false := decide_eq_false c6
      have c6b1 : decide (60 < l0.length) = false := decide_eq_false (by omega)
      clear c6
      (first | rw [c6b0] | (simp only [i64_w, i32_w]; rw [c6b0]) | skip)
      by_cases c7 : (l0.length : Int) = 0
      · rw [if_pos c7] at H
        have c7b0 : ((l0.length : Int) == 0) = true := beq_iff_eq.mpr c7
        have c7b1 : ((l0.length : Int) != 0) = false := bne_eq_false_iff_eq.mpr c7
        clear c7
        have H' := Aside0.mk H
        clear H
        go_wp2
        go_meet
        case rel => exact ⟨_, (true), (by first | rfl | (simp; done) | (simp [*]; done)), H', ⟨by first | omega | exact Nat.le_refl _⟩, ⟨by (with_reducible repeat (first | refine blk_drewN ?_ _ | refine blk_drew ?_ | refine blk_alloc ?_ _)); exact BK251.out⟩, ⟨by repeat (first | (with_reducible first | exact HB.out | apply below_alloc | apply pw_below_drewN | apply below_drew1 | refine below_set ?_ GE251.out) | exact HB.out)⟩⟩
      · rw [if_neg c7] at H
        have c7b0 : ((l0.length : Int) == 0) = false := beq_eq_false_iff_ne.mpr c7
        have c7b1 : ((l0.length : Int) != 0) = true := bne_iff_ne.mpr c7
        have c7b2 : ¬ (l0 = []) := fun h_ => c7 (by rw [h_]; rfl)
        replace H := Option.bind_eq_some_iff.mp H
        obtain ⟨t252, A80, H⟩ := H
        replace H : (if t252 = true then ((limnerlaw03_in.f k (([(⟨a1_0, a1_1⟩ : S24)] : List (S24)))).bind fun t256 => (if t256 = true then (if a2 < 0 then (limnerlaw03_GeomTurns.j0 k l0 a2 true a1_0 a1_1) else (limnerlaw03_GeomTurns.j0 k l0 a2 (decide (a2 ≥ (l0.length : Int))) a1_0 a1_1)) else (limnerlaw03_GeomTurns.j0 k l0 a2 true a1_0 a1_1))) else (limnerlaw03_GeomTurns.j0 k l0 a2 true a1_0 a1_1)) = some r := H
        have A8 := Aside0.mk A80
        clear A80
        by_cases c9 : t252 = true
        · subst c9
          have H1 : ((limnerlaw03_in.f k (([(⟨a1_0, a1_1⟩ : S24)] : List (S24)))).bind fun t256 => (if t256 = true then (if a2 < 0 then (limnerlaw03_GeomTurns.j0 k l0 a2 true a1_0 a1_1) else (limnerlaw03_GeomTurns.j0 k l0 a2 (decide (a2 ≥ (l0.length : Int))) a1_0 a1_1)) else (limnerlaw03_GeomTurns.j0 k l0 a2 true a1_0 a1_1))) = some r := by rw [if_pos rfl] at H; exact H
          clear H
          have H := H1
          clear H1
          obtain ⟨y253, hy253⟩ : ∃ y_ : List (S24), y_ = (([(⟨a1_0, a1_1⟩ : S24)] : List (S24))) := ⟨_, rfl⟩
          replace H : ((limnerlaw03_in.f k y253).bind fun t256 => (if t256 = true then (if a2 < 0 then (limnerlaw03_GeomTurns.j0 k l0 a2 true a1_0 a1_1) else (limnerlaw03_GeomTurns.j0 k l0 a2 (decide (a2 ≥ (l0.length : Int))) a1_0 a1_1)) else (limnerlaw03_GeomTurns.j0 k l0 a2 true a1_0 a1_1))) = some r := by first | (rw [hy253]; with_reducible exact H) | (have H2_ := (Option.bind_some _ _).symm.trans H; rw [hy253]; with_reducible exact H2_) | (have H2_ := (Option.bind_some _ _).symm.trans H; with_reducible exact H2_) | with_reducible exact H | (rw [hy253]; exact H) | exact H
          have Ny253 := Aside0.mk hy253
          clear hy253
          replace H := Option.bind_eq_some_iff.mp H
          obtain ⟨t256, A100, H⟩ := H
          replace H : (if t256 = true then (if a2 < 0 then (limnerlaw03_GeomTurns.j0 k l0 a2 true a1_0 a1_1) else (limnerlaw03_GeomTurns.j0 k l0 a2 (decide (a2 ≥ (l0.length : Int))) a1_0 a1_1)) else (limnerlaw03_GeomTurns.j0 k l0 a2 true a1_0 a1_1)) = some r := H
          have A10 := Aside0.mk A100
          clear A100
          by_cases c11 : t256 = true
          · subst c11
            have H1 : (if a2 < 0 then (limnerlaw03_GeomTurns.j0 k l0 a2 true a1_0 a1_1) else (limnerlaw03_GeomTurns.j0 k l0 a2 (decide (a2 ≥ (l0.length : Int))) a1_0 a1_1)) = some r := by rw [if_pos rfl] at H; exact H
            clear H
            have H := H1
            clear H1
            by_cases c12 : a2 < 0
            · rw [if_pos c12] at H
              have c12b0 : decide (a2 < 0) = true := decide_eq_true c12
              clear c12
              have H' := Aside0.mk H
              clear H
              go_wp2_with (first | (go_at_call 9; (with_reducible refine (limnerlaw03_in.calls k _ _ l0 true _ ?side1 ?side2 A8.out).mono ?_); (case side1 => repeat (first | exact (Kd.C_below HR0.out HB.out) | (with_reducible refine Kd.C_alloc ?_ _) | (with_reducible refine Kd.C_drewN ?_ _) | (with_reducible refine Kd.C_drew ?_))); (case side2 => exact HC0.out); rintro e w13 ⟨rfl, hb⟩; have n0_ := Aside0.mk (blk_below (g := gb251) (o := .cells #[.int .i64 a1_0, .int .i64 a1_1] 24 (0, 0)) (by (with_reducible repeat (first | refine blk_drewN ?_ _ | refine blk_drew ?_ | refine blk_alloc ?_ _)); exact BK251.out) hb); have n1_ := Aside0.mk (below_step (by repeat (first | (with_reducible first | exact HB.out | apply below_alloc | apply pw_below_drewN | apply below_drew1 | refine below_set ?_ GE251.out) | exact HB.out)) hb); clear BK251; clear HB; have BK251 := n0_; have HB := n1_; clear n0_ n1_; (try clear hb); (try clear hb2); (try clear hk); (try clear hi); have hcz14_0 : w13.cell? ⟨gb251, 0, none⟩ = some (.int .i64 a1_0) := (blk_cell BK251.out 0).trans rfl; have hcz14_1 : w13.cell? ⟨gb251, 1, none⟩ = some (.int .i64 a1_1) := (blk_cell BK251.out 1).trans rfl; have hfz14_0 := blk_frozen BK251.out 0; have hfz14_1 := blk_frozen BK251.out 1) | ((with_reducible refine gate_dst (N := 29) rfl ?_); (try (refine gate_guard (by rfl) ?_; dsimp only)); refine Kd.R_lit k24 _ 24 ?hg (N := 29) ?hd (xs := ([(⟨a1_0, a1_1⟩ : S24)] : List (S24))) (inner := [.int .i64 a1_0, .int .i64 a1_1]) (ok := fun _ => True) (okp := fun _ => True) ?hr ?hp (fun _ hk => hk) trivial (Below.refl _ _) (Nat.le_refl _) (by simp) ?_; (case hd => rfl); (case hg => rfl); (case hr => first | (go_simp; done) | (go_simp; rfl)); (case hp => exact (Reps.c2 (show Kd.M k24 _ _ _ (⟨a1_0, a1_1⟩ : S24) [.int .i64 a1_0, .int .i64 a1_1] from (k24_mkM _ _ _ (⟨a1_0, a1_1⟩ : S24) )) (Reps.none _ _))); intro v254 w15 ho16 hb hg_ hnew_; clear hg_ hnew_; (first | rw [← Ny253.out] at ho16 | (simp only [Int.reduceToNat] at ho16; rw [← Ny253.out] at ho16)); have n0_ := Aside0.mk (Kd.R_lower (Kd.R_newB ho16 (g := gb251) (o := .cells #[.int .i64 a1_0, .int .i64 a1_1] 24 (0, 0)) (by (with_reducible repeat (first | refine blk_drewN ?_ _ | refine blk_drew ?_ | refine blk_alloc ?_ _)); exact BK251.out)) (below_size (by repeat (first | (with_reducible first | exact HB.out | apply below_alloc | apply pw_below_drewN | apply below_drew1 | refine below_set ?_ GE251.out) | exact HB.out)))); have n1_ := Aside0.mk (blk_below (g := gb251) (o := .cells #[.int .i64 a1_0, .int .i64 a1_1] 24 (0, 0)) (by (with_reducible repeat (first | refine blk_drewN ?_ _ | refine blk_drew ?_ | refine blk_alloc ?_ _)); exact BK251.out) hb); have n2_ := Aside0.mk (below_step (by repeat (first | (with_reducible first | exact HB.out | apply below_alloc | apply pw_below_drewN | apply below_drew1 | refine below_set ?_ GE251.out) | exact HB.out)) hb); clear BK251; clear HB; have HO255 := n0_; have BK251 := n1_; have HB := n2_; clear n0_ n1_ n2_; clear hb ho16; obtain ⟨Ao17, co17, eo17⟩ := Kd.R_slice HO255.out; subst eo17) | (go_at_call 9; (with_reducible refine (limnerlaw03_in.calls k _ _ y253 true _ ?side1 ?side2 A10.out).mono ?_); (case side1 => repeat (first | exact (Kd.R_reads' HO255.out).2.2 | (with_reducible refine Kd.C_alloc ?_ _) | (with_reducible refine Kd.C_drewN ?_ _) | (with_reducible refine Kd.C_drew ?_))); (case side2 => exact (Kd.R_reads' HO255.out).2.1); rintro e w18 ⟨rfl, hb⟩; have n0_ := Aside0.mk (Kd.R_below (by (with_reducible repeat (first | apply Kd.R_alloc | apply Kd.R_drewN | apply Kd.R_drew)); exact HO255.out) hb); have n1_ := Aside0.mk (blk_below (g := gb251) (o := .cells #[.int .i64 a1_0, .int .i64 a1_1] 24 (0, 0)) (by (with_reducible repeat (first | refine blk_drewN ?_ _ | refine blk_drew ?_ | refine blk_alloc ?_ _)); exact BK251.out) hb); have n2_ := Aside0.mk (below_step (by repeat (first | (with_reducible first | exact HB.out | apply below_alloc | apply pw_below_drewN | apply below_drew1 | refine below_set ?_ GE251.out) | exact HB.out)) hb); clear HO255; clear BK251; clear HB; have HO255 := n0_; have BK251 := n1_; have HB := n2_; clear n0_ n1_ n2_; (try clear hb); (try clear hb2); (try clear hk); (try clear hi)))
              go_meet
              case rel => exact ⟨_, (true), (by first | rfl | (simp; done) | (simp [*]; done)), H', ⟨by first | omega | exact Nat.le_refl _⟩, ⟨by (with_reducible repeat (first | refine blk_drewN ?_ _ | refine blk_drew ?_ | refine blk_alloc ?_ _)); exact BK251.out⟩, ⟨by repeat (first | (with_reducible first | exact HB.out | apply below_alloc | apply pw_below_drewN | apply below_drew1 | refine below_set ?_ GE251.out) | exact HB.out)⟩⟩
            · rw [if_neg c12] at H
              have c12b0 : decide (a2 < 0) = false := decide_eq_false c12
              clear c12
              have H' := Aside0.mk H
              clear H
              go_wp2_with (first | (go_at_call 9; (with_reducible refine (limnerlaw03_in.calls k _ _ l0 true _ ?side1 ?side2 A8.out).mono ?_); (case side1 => repeat (first | exact (Kd.C_below HR0.out HB.out) | (with_reducible refine Kd.C_alloc ?_ _) | (with_reducible refine Kd.C_drewN ?_ _) | (with_reducible refine Kd.C_drew ?_))); (case side2 => exact HC0.out); rintro e w19 ⟨rfl, hb⟩; have n0_ := Aside0.mk (blk_below (g := gb251) (o := .cells #[.int .i64 a1_0, .int .i64 a1_1] 24 (0, 0)) (by (with_reducible repeat (first | refine blk_drewN ?_ _ | refine blk_drew ?_ | refine blk_alloc ?_ _)); exact BK251.out) hb); have n1_ := Aside0.mk (below_step (by repeat (first | (with_reducible first | exact HB.out | apply below_alloc | apply pw_below_drewN | apply below_drew1 | refine below_set ?_ GE251.out) | exact HB.out)) hb); clear BK251; clear HB; have BK251 := n0_; have HB := n1_; clear n0_ n1_; (try clear hb); (try clear hb2); (try clear hk); (try clear hi); have hcz20_0 : w19.cell? ⟨gb251, 0, none⟩ = some (.int .i64 a1_0) := (blk_cell BK251.out 0).trans rfl; have hcz20_1 : w19.cell? ⟨gb251, 1, none⟩ = some (.int .i64 a1_1) := (blk_cell BK251.out 1).trans rfl; have hfz20_0 := blk_frozen BK251.out 0; have hfz20_1 := blk_frozen BK251.out 1) | ((with_reducible refine gate_dst (N := 29) rfl ?_); (try (refine gate_guard (by rfl) ?_; dsimp only)); refine Kd.R_lit k24 _ 24 ?hg (N := 29) ?hd (xs := ([(⟨a1_0, a1_1⟩ : S24)] : List (S24))) (inner := [.int .i64 a1_0, .int .i64 a1_1]) (ok := fun _ => True) (okp := fun _ => True) ?hr ?hp (fun _ hk => hk) trivial (Below.refl _ _) (Nat.le_refl _) (by simp) ?_; (case hd => rfl); (case hg => rfl); (case hr => first | (go_simp; done) | (go_simp; rfl)); (case hp => exact (Reps.c2 (show Kd.M k24 _ _ _ (⟨a1_0, a1_1⟩ : S24) [.int .i64 a1_0, .int .i64 a1_1] from (k24_mkM _ _ _ (⟨a1_0, a1_1⟩ : S24) )) (Reps.none _ _))); intro v254 w21 ho22 hb hg_ hnew_; clear hg_ hnew_; (first | rw [← Ny253.out] at ho22 | (simp only [Int.reduceToNat] at ho22; rw [← Ny253.out] at ho22)); have n0_ := Aside0.mk (Kd.R_lower (Kd.R_newB ho22 (g := gb251) (o := .cells #[.int .i64 a1_0, .int .i64 a1_1] 24 (0, 0)) (by (with_reducible repeat (first | refine blk_drewN ?_ _ | refine blk_drew ?_ | refine blk_alloc ?_ _)); exact BK251.out)) (below_size (by repeat (first | (with_reducible first | exact HB.out | apply below_alloc | apply pw_below_drewN | apply below_drew1 | refine below_set ?_ GE251.out) | exact HB.out)))); have n1_ := Aside0.mk (blk_below (g := gb251) (o := .cells #[.int .i64 a1_0, .int .i64 a1_1] 24 (0, 0)) (by (with_reducible repeat (first | refine blk_drewN ?_ _ | refine blk_drew ?_ | refine blk_alloc ?_ _)); exact BK251.out) hb); have n2_ := Aside0.mk (below_step (by repeat (first | (with_reducible first | exact HB.out | apply below_alloc | apply pw_below_drewN | apply below_drew1 | refine below_set ?_ GE251.out) | exact HB.out)) hb); clear BK251; clear HB; have HO255 := n0_; have BK251 := n1_; have HB := n2_; clear n0_ n1_ n2_; clear hb ho22; obtain ⟨Ao23, co23, eo23⟩ := Kd.R_slice HO255.out; subst eo23) | (go_at_call 9; (with_reducible refine (limnerlaw03_in.calls k _ _ y253 true _ ?side1 ?side2 A10.out).mono ?_); (case side1 => repeat (first | exact (Kd.R_reads' HO255.out).2.2 | (with_reducible refine Kd.C_alloc ?_ _) | (with_reducible refine Kd.C_drewN ?_ _) | (with_reducible refine Kd.C_drew ?_))); (case side2 => exact (Kd.R_reads' HO255.out).2.1); rintro e w24 ⟨rfl, hb⟩; have n0_ := Aside0.mk (Kd.R_below (by (with_reducible repeat (first | apply Kd.R_alloc | apply Kd.R_drewN | apply Kd.R_drew)); exact HO255.out) hb); have n1_ := Aside0.mk (blk_below (g := gb251) (o := .cells #[.int .i64 a1_0, .int .i64 a1_1] 24 (0, 0)) (by (with_reducible repeat (first | refine blk_drewN ?_ _ | refine blk_drew ?_ | refine blk_alloc ?_ _)); exact BK251.out) hb); have n2_ := Aside0.mk (below_step (by repeat (first | (with_reducible first | exact HB.out | apply below_alloc | apply pw_below_drewN | apply below_drew1 | refine below_set ?_ GE251.out) | exact HB.out)) hb); clear HO255; clear BK251; clear HB; have HO255 := n0_; have BK251 := n1_; have HB := n2_; clear n0_ n1_ n2_; (try clear hb); (try clear hb2); (try clear hk); (try clear hi)))
              go_meet
              case rel => exact ⟨_, (decide (a2 ≥ (l0.length : Int))), (by first | rfl | (simp; done) | (simp [*]; done)), H', ⟨by first | omega | exact Nat.le_refl _⟩, ⟨by (with_reducible repeat (first | refine blk_drewN ?_ _ | refine blk_drew ?_ | refine blk_alloc ?_ _)); exact BK251.out⟩, ⟨by repeat (first | (with_reducible first | exact HB.out | apply below_alloc | apply pw_below_drewN | apply below_drew1 | refine below_set ?_ GE251.out) | exact HB.out)⟩⟩
          · replace c11 := Bool.eq_false_iff.mpr c11
            subst c11
            have H1 : (limnerlaw03_GeomTurns.j0 k l0 a2 true a1_0 a1_1) = some r := by rw [if_neg (show ¬ (false = true) by decide)] at H; exact H
            clear H
            have H := H1
            clear H1
            have H' := Aside0.mk H
            clear H
            go_wp2_with (first | (go_at_call 9; (with_reducible refine (limnerlaw03_in.calls k _ _ l0 true _ ?side1 ?side2 A8.out).mono ?_); (case side1 => repeat (first | exact (Kd.C_below HR0.out HB.out) | (with_reducible refine Kd.C_alloc ?_ _) | (with_reducible refine Kd.C_drewN ?_ _) | (with_reducible refine Kd.C_drew ?_))); (case side2 => exact HC0.out); rintro e w25 ⟨rfl, hb⟩; have n0_ := Aside0.mk (blk_below (g := gb251) (o := .cells #[.int .i64 a1_0, .int .i64 a1_1] 24 (0, 0)) (by (with_reducible repeat (first | refine blk_drewN ?_ _ | refine blk_drew ?_ | refine blk_alloc ?_ _)); exact BK251.out) hb); have n1_ := Aside0.mk (below_step (by repeat (first | (with_reducible first | exact HB.out | apply below_alloc | apply pw_below_drewN | apply below_drew1 | refine below_set ?_ GE251.out) | exact HB.out)) hb); clear BK251; clear HB; have BK251 := n0_; have HB := n1_; clear n0_ n1_; (try clear hb); (try clear hb2); (try clear hk); (try clear hi); have hcz26_0 : w25.cell? ⟨gb251, 0, none⟩ = some (.int .i64 a1_0) := (blk_cell BK251.out 0).trans rfl; have hcz26_1 : w25.cell? ⟨gb251, 1, none⟩ = some (.int .i64 a1_1) := (blk_cell BK251.out 1).trans rfl; have hfz26_0 := blk_frozen BK251.out 0; have hfz26_1 := blk_frozen BK251.out 1) | ((with_reducible refine gate_dst (N := 29) rfl ?_); (try (refine gate_guard (by rfl) ?_; dsimp only)); refine Kd.R_lit k24 _ 24 ?hg (N := 29) ?hd (xs := ([(⟨a1_0, a1_1⟩ : S24)] : List (S24))) (inner := [.int .i64 a1_0, .int .i64 a1_1]) (ok := fun _ => True) (okp := fun _ => True) ?hr ?hp (fun _ hk => hk) trivial (Below.refl _ _) (Nat.le_refl _) (by simp) ?_; (case hd => rfl); (case hg => rfl); (case hr => first | (go_simp; done) | (go_simp; rfl)); (case hp => exact (Reps.c2 (show Kd.M k24 _ _ _ (⟨a1_0, a1_1⟩ : S24) [.int .i64 a1_0, .int .i64 a1_1] from (k24_mkM _ _ _ (⟨a1_0, a1_1⟩ : S24) )) (Reps.none _ _))); intro v254 w27 ho28 hb hg_ hnew_; clear hg_ hnew_; (first | rw [← Ny253.out] at ho28 | (simp only [Int.reduceToNat] at ho28; rw [← Ny253.out] at ho28)); have n0_ := Aside0.mk (Kd.R_lower (Kd.R_newB ho28 (g := gb251) (o := .cells #[.int .i64 a1_0, .int .i64 a1_1] 24 (0, 0)) (by (with_reducible repeat (first | refine blk_drewN ?_ _ | refine blk_drew ?_ | refine blk_alloc ?_ _)); exact BK251.out)) (below_size (by repeat (first | (with_reducible first | exact HB.out | apply below_alloc | apply pw_below_drewN | apply below_drew1 | refine below_set ?_ GE251.out) | exact HB.out)))); have n1_ := Aside0.mk (blk_below (g := gb251) (o := .cells #[.int .i64 a1_0, .int .i64 a1_1] 24 (0, 0)) (by (with_reducible repeat (first | refine blk_drewN ?_ _ | refine blk_drew ?_ | refine blk_alloc ?_ _)); exact BK251.out) hb); have n2_ := Aside0.mk (below_step (by repeat (first | (with_reducible first | exact HB.out | apply below_alloc | apply pw_below_drewN | apply below_drew1 | refine below_set ?_ GE251.out) | exact HB.out)) hb); clear BK251; clear HB; have HO255 := n0_; have BK251 := n1_; have HB := n2_; clear n0_ n1_ n2_; clear hb ho28; obtain ⟨Ao29, co29, eo29⟩ := Kd.R_slice HO255.out; subst eo29) | (go_at_call 9; (with_reducible refine (limnerlaw03_in.calls k _ _ y253 false _ ?side1 ?side2 A10.out).mono ?_); (case side1 => repeat (first | exact (Kd.R_reads' HO255.out).2.2 | (with_reducible refine Kd.C_alloc ?_ _) | (with_reducible refine Kd.C_drewN ?_ _) | (with_reducible refine Kd.C_drew ?_))); (case side2 => exact (Kd.R_reads' HO255.out).2.1); rintro e w30 ⟨rfl, hb⟩; have n0_ := Aside0.mk (Kd.R_below (by (with_reducible repeat (first | apply Kd.R_alloc | apply Kd.R_drewN | apply Kd.R_drew)); exact HO255.out) hb); have n1_ := Aside0.mk (blk_below (g := gb251) (o := .cells #[.int .i64 a1_0, .int .i64 a1_1] 24 (0, 0)) (by (with_reducible repeat (first | refine blk_drewN ?_ _ | refine blk_drew ?_ | refine blk_alloc ?_ _)); exact BK251.out) hb); have n2_ := Aside0.mk (below_step (by repeat (first | (with_reducible first | exact HB.out | apply below_alloc | apply pw_below_drewN | apply below_drew1 | refine below_set ?_ GE251.out) | exact HB.out)) hb); clear HO255; clear BK251; clear HB; have HO255 := n0_; have BK251 := n1_; have HB := n2_; clear n0_ n1_ n2_; (try clear hb); (try clear hb2); (try clear hk); (try clear hi)))
            go_meet
            case rel => exact ⟨_, (true), (by first | rfl | (simp; done) | (simp [*]; done)), H', ⟨by first | omega | exact Nat.le_refl _⟩, ⟨by (with_reducible repeat (first | refine blk_drewN ?_ _ | refine blk_drew ?_ | refine blk_alloc ?_ _)); exact BK251.out⟩, ⟨by repeat (first | (with_reducible first | exact HB.out | apply below_alloc | apply pw_below_drewN | apply below_drew1 | refine below_set ?_ GE251.out) | exact HB.out)⟩⟩
        · replace c9 := Bool.eq_false_iff.mpr c9
          subst c9
          have H1 : (limnerlaw03_GeomTurns.j0 k l0 a2 true a1_0 a1_1) = some r := by rw [if_neg (show ¬ (false = true) by decide)] at H; exact H
          clear H
          have H := H1
          clear H1
          have H' := Aside0.mk H
          clear H
          go_wp2_with (first | (go_at_call 9; (with_reducible refine (limnerlaw03_in.calls k _ _ l0 false _ ?side1 ?side2 A8.out).mono ?_); (case side1 => repeat (first | exact (Kd.C_below HR0.out HB.out) | (with_reducible refine Kd.C_alloc ?_ _) | (with_reducible refine Kd.C_drewN ?_ _) | (with_reducible refine Kd.C_drew ?_))); (case side2 => exact HC0.out); rintro e w31 ⟨rfl, hb⟩; have n0_ := Aside0.mk (blk_below (g := gb251) (o := .cells #[.int .i64 a1_0, .int .i64 a1_1] 24 (0, 0)) (by (with_reducible repeat (first | refine blk_drewN ?_ _ | refine blk_drew ?_ | refine blk_alloc ?_ _)); exact BK251.out) hb); have n1_ := Aside0.mk (below_step (by repeat (first | (with_reducible first | exact HB.out | apply below_alloc | apply pw_below_drewN | apply below_drew1 | refine below_set ?_ GE251.out) | exact HB.out)) hb); clear BK251; clear HB; have BK251 := n0_; have HB := n1_; clear n0_ n1_; (try clear hb); (try clear hb2); (try clear hk); (try clear hi)))
          go_meet
          case rel => exact ⟨_, (true), (by first | rfl | (simp; done) | (simp [*]; done)), H', ⟨by first | omega | exact Nat.le_refl _⟩, ⟨by (with_reducible repeat (first | refine blk_drewN ?_ _ | refine blk_drew ?_ | refine blk_alloc ?_ _)); exact BK251.out⟩, ⟨by repeat (first | (with_reducible first | exact HB.out | apply below_alloc | apply pw_below_drewN | apply below_drew1 | refine below_set ?_ GE251.out) | exact HB.out)⟩⟩
  case rest =>
    clear HC4
    try clear c1
    try clear c2
    try clear p2
    try clear c4
    try clear c6
    try clear c6b0
    try clear c6b1
    try clear c7
    try clear c7b0
    try clear c7b1
    try clear c7b2
    try clear c9
    try clear c11
    try clear c12
    try clear c12b0
    try clear hcz14_0
    try clear hcz14_1
    try clear hcz20_0
    try clear hcz20_1
    try clear hcz26_0
    try clear hcz26_1
    try clear hfz14_0
    try clear hfz14_1
    try clear hfz20_0
    try clear hfz20_1
    try clear hfz26_0
    try clear hfz26_1
    obtain ⟨kq, x42_3, rfl, HA, HJ3, BK251, HB⟩ := hcut
    cases kq with
    | zero => exact absurd HA.out (by simp [limnerlaw03_GeomTurns.j0])
    | succ kj3 =>
      have H := HA.out
      clear HA
      simp only [limnerlaw03_GeomTurns.j0] at H
      by_cases c32 : x42_3 = true
      · subst c32
        have H1 : ((limnerlaw03_awake.f kj3).bind fun t257 => (some t257)) = some r := by rw [if_pos rfl] at H; exact H
        clear H
        have H := H1
        clear H1
        replace H := Option.bind_eq_some_iff.mp H
        obtain ⟨t257, A330, H⟩ := H
        replace H : (some t257) = some r := H
        have A33 := Aside0.mk A330
        clear A330
        obtain rfl := Option.some.inj H
        go_wp2_with (first | ((with_reducible refine gate_callee (f := 10) rfl ?_); refine goesL_ (some 43) rfl rfl Try.func10 (by kernel_rfl) rfl #[] rfl (by (try simp only [List.map_toArray, List.map_cons, List.map_nil]); first | done | rfl | (simp only [List.length_drop, List.length_take]; rfl)) ?_; (with_reducible refine (limnerlaw03_awake.calls kj3  t257 _ A33.out).mono ?_); rintro e w34 ⟨rfl, hb⟩; refine ⟨_, rfl, ?_⟩; have n0_ := Aside0.mk (blk_below (g := gb251) (o := .cells #[.int .i64 a1_0, .int .i64 a1_1] 24 (0, 0)) (by (with_reducible repeat (first | refine blk_drewN ?_ _ | refine blk_drew ?_ | refine blk_alloc ?_ _)); exact BK251.out) hb); have n1_ := Aside0.mk (below_step (by repeat (first | (with_reducible first | exact HB.out | apply below_alloc | apply pw_below_drewN | apply below_drew1 | refine below_set ?_ GE251.out) | exact HB.out)) hb); clear BK251; clear HB; have BK251 := n0_; have HB := n1_; clear n0_ n1_; (try clear hb); (try clear hb2); (try clear hk); (try clear hi)))
        go_ret
        exact ⟨by first | rfl | (simp [errW_none, errW_some] <;> rfl) | (simp [*, errW_none, errW_some] <;> rfl), by repeat (first | (with_reducible first | exact HB.out | apply below_alloc | apply pw_below_drewN | apply below_drew1 | refine below_set ?_ GE251.out) | exact HB.out)⟩
      · replace c32 := Bool.eq_false_iff.mpr c32
        subst c32
        have H1 : ((geom_Winds.f kj3 l0 a1_0 a1_1).bind fun t258 => (limnerlaw03_GeomTurns.l0 kj3 l0 a2 t258 ([] : List (S24)) (l0.length : Int) 0 a1_0 a1_1)) = some r := by rw [if_neg (show ¬ (false = true) by decide)] at H; exact H
        clear H
        have H := H1
        clear H1
        replace H := Option.bind_eq_some_iff.mp H
        obtain ⟨t258, A350, H⟩ := H
        replace H : (limnerlaw03_GeomTurns.l0 kj3 l0 a2 t258 ([] : List (S24)) (l0.length : Int) 0 a1_0 a1_1) = some r := H
        have A35 := Aside0.mk A350
        clear A350
        have H' := Aside0.mk H
        clear H
        have hcz36_0 : wc.cell? ⟨gb251, 0, none⟩ = some (.int .i64 a1_0) := (blk_cell BK251.out 0).trans rfl
        have hcz36_1 : wc.cell? ⟨gb251, 1, none⟩ = some (.int .i64 a1_1) := (blk_cell BK251.out 1).trans rfl
        have hfz36_0 := blk_frozen BK251.out 0
        have hfz36_1 := blk_frozen BK251.out 1
        go_wp2_with (first | ((with_reducible refine gate_callee (f := 12) rfl ?_); refine goesL_ (some 46) rfl rfl Try.func12 (by kernel_rfl) rfl #[.slice A0 l0.length c0, .agg #[.int .i64 a1_0, .int .i64 a1_1]] rfl (by (try simp only [List.map_toArray, List.map_cons, List.map_nil]); first | done | rfl | (simp only [List.length_drop, List.length_take]; rfl)) ?_; (with_reducible refine (geom_Winds.calls kj3 _ _ l0 a1_0 a1_1 t258 _ ?side1 ?side2 A35.out).mono ?_); (case side1 => repeat (first | exact (Kd.C_below HR0.out HB.out) | (with_reducible refine Kd.C_alloc ?_ _) | (with_reducible refine Kd.C_drewN ?_ _) | (with_reducible refine Kd.C_drew ?_))); (case side2 => exact HC0.out); rintro e w37 ⟨rfl, hb⟩; refine ⟨_, rfl, ?_⟩; have n0_ := Aside0.mk (blk_below (g := gb251) (o := .cells #[.int .i64 a1_0, .int .i64 a1_1] 24 (0, 0)) (by (with_reducible repeat (first | refine blk_drewN ?_ _ | refine blk_drew ?_ | refine blk_alloc ?_ _)); exact BK251.out) hb); have n1_ := Aside0.mk (below_step (by repeat (first | (with_reducible first | exact HB.out | apply below_alloc | apply pw_below_drewN | apply below_drew1 | refine below_set ?_ GE251.out) | exact HB.out)) hb); clear BK251; clear HB; have BK251 := n0_; have HB := n1_; clear n0_ n1_; (try clear hb); (try clear hb2); (try clear hk); (try clear hi)))
        go_loopg [8, 49] kj3 (fun kq v8 v49 w' => ∃ (x8_2 : List (S24)) (x49_2 : Int), v49 = .int .i64 x49_2 ∧ Aside0 (limnerlaw03_GeomTurns.l0 kq l0 a2 t258 x8_2 (l0.length : Int) x49_2 a1_0 a1_1 = some r) ∧ Aside0 (kq ≤ kj3) ∧ Aside0 (Kd.R k24 24 w' w.heap.size (fun k_ => k_ ≠ gb251) v8 x8_2) ∧ Aside0 (w'.heap[gb251]? = some (.cells #[.int .i64 a1_0, .int .i64 a1_1] 24 (0, 0))) ∧ Aside0 (Below w.heap.size w w'))
        case atStart => exact ⟨(([] : List (S24))), (0), (by first | rfl | (simp; done) | (simp [*]; done)), H', ⟨Nat.le_refl _⟩, ⟨by first | exact Kd.R_nil _ _ _ _ _ | exact Kd.N_nil _ _ _ _ _ | exact Kd.V_nil _ _ _ _ _ | exact Kd.Q_nil _ _ _ _ _ | exact Kd.S_nil _ _ _ _ _⟩, ⟨by (with_reducible repeat (first | refine blk_drewN ?_ _ | refine blk_drew ?_ | refine blk_alloc ?_ _)); exact BK251.out⟩, ⟨by repeat (first | (with_reducible first | exact HB.out | apply below_alloc | apply pw_below_drewN | apply below_drew1 | refine below_set ?_ GE251.out) | exact HB.out)⟩⟩
        case round =>
          clear H'
          try clear c1
          try clear c2
          try clear p2
          try clear c3
          try clear c4
          try clear c6
          try clear c6b0
          try clear c6b1
          try clear c7
          try clear c7b0
          try clear c7b1
          try clear c7b2
          try clear c9
          try clear c10
          try clear c11
          try clear c12
          try clear c12b0
          try clear c32
          try clear hcz14_0
          try clear hcz14_1
          try clear hcz20_0
          try clear hcz20_1
          try clear hcz26_0
          try clear hcz26_1
          try clear hcz36_0
          try clear hcz36_1
          try clear hfz14_0
          try clear hfz14_1
          try clear hfz20_0
          try clear hfz20_1
          try clear hfz26_0
          try clear hfz26_1
          try clear hfz36_0
          try clear hfz36_1
          try clear p2
          obtain ⟨x8_2, x49_2, rfl, HA, HK2, HO_8, BK251, HB⟩ := hrel
          cases gk with
          | zero => exact absurd HA.out (by simp [limnerlaw03_GeomTurns.l0])
          | succ k2 =>
            have H := HA.out
            clear HA
            simp only [limnerlaw03_GeomTurns.l0] at H
            by_cases c38 : x49_2 < (l0.length : Int)
            · rw [if_pos c38] at H
              have c38b0 : decide (x49_2 < (l0.length : Int)) = true := decide_eq_true c38
              clear c38
              obtain ⟨ji39, hji39⟩ : ∃ j_ : Int, (wrap64 ((wrap64 ((l0.length : Int) - 1)) - x49_2)) = j_ := ⟨_, rfl⟩
              replace H : (if 0 ≤ (ji39) then (if (ji39) < (l0.length : Int) then ((some (([(⟨(rd_T24 l0 (ji39)).f0, (rd_T24 l0 (ji39)).f1⟩ : S24)] : List (S24)) : List (S24))).bind fun y260 => (if x8_2.length + y260.length < 8796093022208 then (limnerlaw03_GeomTurns.l0 k2 l0 a2 t258 (x8_2 ++ y260) (l0.length : Int) (wrap64 (x49_2 + 1)) a1_0 a1_1) else (none))) else (none)) else (none)) = some r := by first | (rw [hji39] at H; exact H) | (simp only [hji39] at H ⊢; exact H)
              have hji39w : (IntKind.i64.wrap ((wrap64 ((l0.length : Int) - 1)) - x49_2)) = ji39 := (i64_w _).trans hji39
              by_cases c40 : 0 ≤ (ji39)
              · rw [if_pos c40] at H
                have c40b0 : decide (0 ≤ (ji39)) = true := decide_eq_true c40
                clear c40
                by_cases c41 : (ji39) < (l0.length : Int)
                · rw [if_pos c41] at H
                  have c41b0 : decide ((ji39) < (l0.length : Int)) = true := decide_eq_true c41
                  clear c41
                  obtain ⟨y260, hy260⟩ : ∃ y_ : List (S24), y_ = (([(⟨(rd_T24 l0 (ji39)).f0, (rd_T24 l0 (ji39)).f1⟩ : S24)] : List (S24))) := ⟨_, rfl⟩
                  replace H : (if x8_2.length + y260.length < 8796093022208 then (limnerlaw03_GeomTurns.l0 k2 l0 a2 t258 (x8_2 ++ y260) (l0.length : Int) (wrap64 (x49_2 + 1)) a1_0 a1_1) else (none)) = some r := by first | (rw [hy260]; with_reducible exact H) | (have H2_ := (Option.bind_some _ _).symm.trans H; rw [hy260]; with_reducible exact H2_) | (have H2_ := (Option.bind_some _ _).symm.trans H; with_reducible exact H2_) | with_reducible exact H | (rw [hy260]; exact H) | exact H
                  have Ny260 := Aside0.mk hy260
                  clear hy260
                  by_cases c42 : x8_2.length + y260.length < 8796093022208
                  · rw [if_pos c42] at H
                    have LMc42 := Aside0.mk c42
                    clear c42
                    obtain ⟨y263, hy263⟩ : ∃ y_ : List (S24), y_ = (x8_2 ++ y260) := ⟨_, rfl⟩
                    replace H : (limnerlaw03_GeomTurns.l0 k2 l0 a2 t258 y263 (l0.length : Int) (wrap64 (x49_2 + 1)) a1_0 a1_1) = some r := by first | (rw [hy263]; with_reducible exact H) | (have H2_ := (Option.bind_some _ _).symm.trans H; rw [hy263]; with_reducible exact H2_) | (have H2_ := (Option.bind_some _ _).symm.trans H; with_reducible exact H2_) | with_reducible exact H | (rw [hy263]; exact H) | exact H
                    have Ny263 := Aside0.mk hy263
                    clear hy263
                    have H' := Aside0.mk H
                    clear H
                    have p259 : 0 ≤ ((ji39) : Int) := of_decide_eq_true (by first | (with_reducible assumption) | assumption)
                    have q259 : (ji39) < (l0.length : Int) := of_decide_eq_true (by first | (with_reducible assumption) | assumption)
                    obtain ⟨ad259, e259, hx259_0, hx259_1⟩ := at_T24 HR0.out (ji39) p259 q259
                    cases e259
                    replace hx259_0 := (HB.out.cell (World.block_lt_of_cell? w _ hx259_0)).trans hx259_0
                    replace hx259_1 := (HB.out.cell (World.block_lt_of_cell? w _ hx259_1)).trans hx259_1
                    replace p259 := eq_true p259
                    replace q259 := eq_true q259
                    go_wp2_with (first | ((with_reducible refine gate_dst (N := 61) rfl ?_); (try (refine gate_guard (by rfl) ?_; dsimp only)); refine Kd.R_lit k24 _ 24 ?hg (N := 61) ?hd (xs := ([(⟨(rd_T24 l0 (ji39)).f0, (rd_T24 l0 (ji39)).f1⟩ : S24)] : List (S24))) (inner := [.int .i64 ((rd_T24 l0 (ji39)).f0), .int .i64 ((rd_T24 l0 (ji39)).f1)]) (ok := fun _ => True) (okp := fun _ => True) ?hr ?hp (fun _ hk => hk) trivial (Below.refl _ _) (Nat.le_refl _) (by simp) ?_; (case hd => rfl); (case hg => rfl); (case hr => first | (go_simp; done) | (go_simp; rfl)); (case hp => exact (Reps.c2 (show Kd.M k24 _ _ _ (⟨(rd_T24 l0 (ji39)).f0, (rd_T24 l0 (ji39)).f1⟩ : S24) [.int .i64 ((rd_T24 l0 (ji39)).f0), .int .i64 ((rd_T24 l0 (ji39)).f1)] from (k24_mkM _ _ _ (⟨(rd_T24 l0 (ji39)).f0, (rd_T24 l0 (ji39)).f1⟩ : S24) )) (Reps.none _ _))); intro v261 w43 ho44 hb hg_ hnew_; clear hg_ hnew_; (first | rw [← Ny260.out] at ho44 | (simp only [Int.reduceToNat] at ho44; rw [← Ny260.out] at ho44)); have n0_ := Aside0.mk (Kd.R_elder' (by (with_reducible repeat (first | apply Kd.R_alloc | apply Kd.R_drewN | apply Kd.R_drew)); exact HO_8.out) (Kd.R_base ho44) hb); have n1_ := Aside0.mk (Kd.R_lower (Kd.R_newB (Kd.R_new' ho44 (Kd.R_lt (by (with_reducible repeat (first | apply Kd.R_alloc | apply Kd.R_drewN | apply Kd.R_drew)); exact HO_8.out))) (g := gb251) (o := .cells #[.int .i64 a1_0, .int .i64 a1_1] 24 (0, 0)) (by (with_reducible repeat (first | refine blk_drewN ?_ _ | refine blk_drew ?_ | refine blk_alloc ?_ _)); exact BK251.out)) (below_size (by repeat (first | (with_reducible first | exact HB.out | apply below_alloc | apply pw_below_drewN | apply below_drew1 | refine below_set ?_ GE251.out) | exact HB.out)))); have n2_ := Aside0.mk (blk_below (g := gb251) (o := .cells #[.int .i64 a1_0, .int .i64 a1_1] 24 (0, 0)) (by (with_reducible repeat (first | refine blk_drewN ?_ _ | refine blk_drew ?_ | refine blk_alloc ?_ _)); exact BK251.out) hb); have n3_ := Aside0.mk (below_step (by repeat (first | (with_reducible first | exact HB.out | apply below_alloc | apply pw_below_drewN | apply below_drew1 | refine below_set ?_ GE251.out) | exact HB.out)) hb); clear HO_8; clear BK251; clear HB; have HO_8 := n0_; have HO262 := n1_; have BK251 := n2_; have HB := n3_; clear n0_ n1_ n2_ n3_; clear hb ho44; obtain ⟨Ao46, co46, eo46⟩ := Kd.R_slice HO262.out; subst eo46) | ((with_reducible refine gate_builtin (b := .append) (xs := #[.tmp 52, .tmp 61]) rfl ?_); (try (refine gate_guard (by rfl) ?_; dsimp only)); at_builtin; refine Kd.R_append_rows k24 (w0 := w) w.heap.size rfl (.tmp 52) (.tmp 61) 22 24 (.agg #[(.int .i64 0), (.int .i64 0)]) 16 rfl Try.underlying22 info24 rfl (by decide) (by omega) u8 x8_2 y260 _ _ _ (fun k_ => some k_ ≠ (.slice Ao46 y260.length co46 : Value).ownBlock ∧ k_ ≠ gb251) (fun _ => False) rfl rfl ?aO ?aR (fun _ _ h => h) (fun _ h => h.elim) ?aF ?aB ?aS ?aL ?_; (case aR => repeat (first | exact (Kd.R_reads' HO262.out).2.2 | (with_reducible refine Kd.C_alloc ?_ _) | (with_reducible refine Kd.C_drewN ?_ _) | (with_reducible refine Kd.C_drew ?_))); (case aB => exact (by repeat (first | (with_reducible first | exact HB.out | apply below_alloc | apply pw_below_drewN | apply below_drew1 | refine below_set ?_ GE251.out) | exact HB.out))); (case aF => exact (fun k_ hk => ⟨Kd.fresh' (Kd.R_lt (by (with_reducible repeat (first | apply Kd.R_alloc | apply Kd.R_drewN | apply Kd.R_drew)); exact HO262.out)) k_ hk, Kd.freshB (g := gb251) (o := .cells #[.int .i64 a1_0, .int .i64 a1_1] 24 (0, 0)) (by (with_reducible repeat (first | refine blk_drewN ?_ _ | refine blk_drew ?_ | refine blk_alloc ?_ _)); exact BK251.out) k_ hk⟩)); (case aO => exact (by (with_reducible repeat (first | apply Kd.R_alloc | apply Kd.R_drewN | apply Kd.R_drew)); exact Kd.R_mono HO_8.out (fun _ hk => ⟨hk.2, hk.1⟩))); (case aS => exact (below_size (by repeat (first | (with_reducible first | exact HB.out | apply below_alloc | apply pw_below_drewN | apply below_drew1 | refine below_set ?_ GE251.out) | exact HB.out)))); (case aL => have := LMc42.out; omega); intro v264 w45 ho hb hg hat; rw [← Ny263.out] at ho; have n0_ := Aside0.mk (blk_grown (g := gb251) (o := .cells #[.int .i64 a1_0, .int .i64 a1_1] 24 (0, 0)) (by (with_reducible repeat (first | refine blk_drewN ?_ _ | refine blk_drew ?_ | refine blk_alloc ?_ _)); exact BK251.out) hg (Kd.R_away HO_8.out (fun _ hk => hk.1))); have n1_ := Aside0.mk (Kd.R_after (ok := (fun k_ => k_ ≠ gb251)) (by (with_reducible repeat (first | apply Kd.R_alloc | apply Kd.R_drewN | apply Kd.R_drew)); exact Kd.R_mono HO262.out (fun _ hk => ⟨hk.2, hk.1.2⟩)) hg hat); have n2_ := Aside0.mk (hb); have n3_ := Aside0.mk (ho); clear BK251; clear HO262; clear HB; clear HO_8; have BK251 := n0_; have HO262 := n1_; have HB := n2_; have HO265 := n3_; clear n0_ n1_ n2_ n3_; clear ho hb hg hat))
                    go_roundg k2
                    case measure => have := HJ3.out; have := HK2.out; omega
                    case rel => exact ⟨(y263), (wrap64 (x49_2 + 1)), (by first | rfl | (simp; done) | (simp [*]; done)), H', ⟨by have := HJ3.out; have := HK2.out; omega⟩, ⟨by (with_reducible repeat (first | apply Kd.R_alloc | apply Kd.R_drewN | apply Kd.R_drew)); exact Kd.R_mono HO265.out (fun _ hk => hk.2)⟩, ⟨by (with_reducible repeat (first | refine blk_drewN ?_ _ | refine blk_drew ?_ | refine blk_alloc ?_ _)); exact BK251.out⟩, ⟨by repeat (first | (with_reducible first | exact HB.out | apply below_alloc | apply pw_below_drewN | apply below_drew1 | refine below_set ?_ GE251.out) | exact HB.out)⟩⟩
                  · rw [if_neg c42] at H
                    exact absurd H (by simp)
                · rw [if_neg c41] at H
                  exact absurd H (by simp)
              · rw [if_neg c40] at H
                exact absurd H (by simp)
            · rw [if_neg c38] at H
              have c38b0 : decide (x49_2 < (l0.length : Int)) = false := decide_eq_false c38
              clear c38
              obtain ⟨y266, hy266⟩ : ∃ y_ : List (S24), y_ = (([] : List (S24))) := ⟨_, rfl⟩
              replace H : (if 0 ≤ a2 then (if a2 ≤ (l0.length : Int) then ((some (l0.drop (a2 : Int).toNat : List (S24))).bind fun y269 => (if y266.length + y269.length < 8796093022208 then ((some (y266 ++ y269 : List (S24))).bind fun y273 => ((some (l0.take (a2 : Int).toNat : List (S24))).bind fun y276 => (if y273.length + y276.length < 8796093022208 then ((some (([] : List (S24)) : List (S24))).bind fun y283 => (if y283.length + l0.length < 8796093022208 then ((some (y283 ++ l0 : List (S24))).bind fun y286 => (if 0 ≤ (wrap64 ((l0.length : Int) - 1)) then (if (wrap64 ((l0.length : Int) - 1)) < (l0.length : Int) then ((some (([(⟨(rd_T24 l0 (wrap64 ((l0.length : Int) - 1))).f0, (rd_T24 l0 (wrap64 ((l0.length : Int) - 1))).f1⟩ : S24)] : List (S24)) : List (S24))).bind fun y290 => (if y286.length + y290.length < 8796093022208 then ((some (([] : List (S24)) : List (S24))).bind fun y296 => (if 0 ≤ (wrap64 (a2 + 1)) then (if (wrap64 (a2 + 1)) ≤ (l0.length : Int) then ((some (l0.take ((wrap64 (a2 + 1)) : Int).toNat : List (S24))).bind fun y299 => (if y296.length + y299.length < 8796093022208 then (if 0 < (l0.length : Int) then ((some (([(⟨(rd_T24 l0 0).f0, (rd_T24 l0 0).f1⟩ : S24)] : List (S24)) : List (S24))).bind fun y307 => (if y307.length + y269.length < 8796093022208 then ((geom_Winds.f k2 x8_2 a1_0 a1_1).bind fun t317 => (if t317 = (wrap64 (-t258)) then ((geom_Winds.f k2 (y273 ++ y276) a1_0 a1_1).bind fun t318 => (if t318 = t258 then ((geom_Winds.f k2 (y286 ++ y290) a1_0 a1_1).bind fun t319 => (if t319 = t258 then ((geom_Winds.f k2 (y296 ++ y299) a1_0 a1_1).bind fun t320 => ((geom_Winds.f k2 (y307 ++ y269) a1_0 a1_1).bind fun t321 => (if (wrap64 (t320 + t321)) = t258 then ((limnerlaw03_awake.f k2).bind fun t322 => (some t322)) else (none)))) else (none))) else (none))) else (none))) else (none))) else (none)) else (none))) else (none)) else (none))) else (none))) else (none)) else (none))) else (none))) else (none)))) else (none))) else (none)) else (none)) = some r := by first | (rw [hy266]; with_reducible exact H) | (have H2_ := (Option.bind_some _ _).symm.trans H; rw [hy266]; with_reducible exact H2_) | (have H2_ := (Option.bind_some _ _).symm.trans H; with_reducible exact H2_) | with_reducible exact H | (rw [hy266]; exact H) | exact H
              have Ny266 := Aside0.mk hy266
              clear hy266
              by_cases c47 : 0 ≤ a2
              · rw [if_pos c47] at H
                have c47b0 := eq_true c47
                have c47b1 : decide (0 ≤ a2) = true := decide_eq_true c47
                clear c47
                by_cases c48 : a2 ≤ (l0.length : Int)
                · rw [if_pos c48] at H
                  have c48b0 := eq_true c48
                  have c48b1 : decide (a2 ≤ (l0.length : Int)) = true := decide_eq_true c48
                  clear c48
                  obtain ⟨y269, hy269⟩ : ∃ y_ : List (S24), y_ = (l0.drop (a2 : Int).toNat) := ⟨_, rfl⟩
                  replace H : (if y266.length + y269.length < 8796093022208 then ((some (y266 ++ y269 : List (S24))).bind fun y273 => ((some (l0.take (a2 : Int).toNat : List (S24))).bind fun y276 => (if y273.length + y276.length < 8796093022208 then ((some (([] : List (S24)) : List (S24))).bind fun y283 => (if y283.length + l0.length < 8796093022208 then ((some (y283 ++ l0 : List (S24))).bind fun y286 => (if 0 ≤ (wrap64 ((l0.length : Int) - 1)) then (if (wrap64 ((l0.length : Int) - 1)) < (l0.length : Int) then ((some (([(⟨(rd_T24 l0 (wrap64 ((l0.length : Int) - 1))).f0, (rd_T24 l0 (wrap64 ((l0.length : Int) - 1))).f1⟩ : S24)] : List (S24)) : List (S24))).bind fun y290 => (if y286.length + y290.length < 8796093022208 then ((some (([] : List (S24)) : List (S24))).bind fun y296 => (if 0 ≤ (wrap64 (a2 + 1)) then (if (wrap64 (a2 + 1)) ≤ (l0.length : Int) then ((some (l0.take ((wrap64 (a2 + 1)) : Int).toNat : List (S24))).bind fun y299 => (if y296.length + y299.length < 8796093022208 then (if 0 < (l0.length : Int) then ((some (([(⟨(rd_T24 l0 0).f0, (rd_T24 l0 0).f1⟩ : S24)] : List (S24)) : List (S24))).bind fun y307 => (if y307.length + y269.length < 8796093022208 then ((geom_Winds.f k2 x8_2 a1_0 a1_1).bind fun t317 => (if t317 = (wrap64 (-t258)) then ((geom_Winds.f k2 (y273 ++ y276) a1_0 a1_1).bind fun t318 => (if t318 = t258 then ((geom_Winds.f k2 (y286 ++ y290) a1_0 a1_1).bind fun t319 => (if t319 = t258 then ((geom_Winds.f k2 (y296 ++ y299) a1_0 a1_1).bind fun t320 => ((geom_Winds.f k2 (y307 ++ y269) a1_0 a1_1).bind fun t321 => (if (wrap64 (t320 + t321)) = t258 then ((limnerlaw03_awake.f k2).bind fun t322 => (some t322)) else (none)))) else (none))) else (none))) else (none))) else (none))) else (none)) else (none))) else (none)) else (none))) else (none))) else (none)) else (none))) else (none))) else (none)))) else (none)) = some r := by first | (rw [hy269]; with_reducible exact H) | (have H2_ := (Option.bind_some _ _).symm.trans H; rw [hy269]; with_reducible exact H2_) | (have H2_ := (Option.bind_some _ _).symm.trans H; with_reducible exact H2_) | with_reducible exact H | (rw [hy269]; exact H) | exact H
                  have Ny269 := Aside0.mk hy269
                  clear hy269
                  by_cases c49 : y266.length + y269.length < 8796093022208
                  · rw [if_pos c49] at H
                    have LMc49 := Aside0.mk c49
                    clear c49
                    obtain ⟨y273, hy273⟩ : ∃ y_ : List (S24), y_ = (y266 ++ y269) := ⟨_, rfl⟩
                    replace H : ((some (l0.take (a2 : Int).toNat : List (S24))).bind fun y276 => (if y273.length + y276.length < 8796093022208 then ((some (([] : List (S24)) : List (S24))).bind fun y283 => (if y283.length + l0.length < 8796093022208 then ((some (y283 ++ l0 : List (S24))).bind fun y286 => (if 0 ≤ (wrap64 ((l0.length : Int) - 1)) then (if (wrap64 ((l0.length : Int) - 1)) < (l0.length : Int) then ((some (([(⟨(rd_T24 l0 (wrap64 ((l0.length : Int) - 1))).f0, (rd_T24 l0 (wrap64 ((l0.length : Int) - 1))).f1⟩ : S24)] : List (S24)) : List (S24))).bind fun y290 => (if y286.length + y290.length < 8796093022208 then ((some (([] : List (S24)) : List (S24))).bind fun y296 => (if 0 ≤ (wrap64 (a2 + 1)) then (if (wrap64 (a2 + 1)) ≤ (l0.length : Int) then ((some (l0.take ((wrap64 (a2 + 1)) : Int).toNat : List (S24))).bind fun y299 => (if y296.length + y299.length < 8796093022208 then (if 0 < (l0.length : Int) then ((some (([(⟨(rd_T24 l0 0).f0, (rd_T24 l0 0).f1⟩ : S24)] : List (S24)) : List (S24))).bind fun y307 => (if y307.length + y269.length < 8796093022208 then ((geom_Winds.f k2 x8_2 a1_0 a1_1).bind fun t317 => (if t317 = (wrap64 (-t258)) then ((geom_Winds.f k2 (y273 ++ y276) a1_0 a1_1).bind fun t318 => (if t318 = t258 then ((geom_Winds.f k2 (y286 ++ y290) a1_0 a1_1).bind fun t319 => (if t319 = t258 then ((geom_Winds.f k2 (y296 ++ y299) a1_0 a1_1).bind fun t320 => ((geom_Winds.f k2 (y307 ++ y269) a1_0 a1_1).bind fun t321 => (if (wrap64 (t320 + t321)) = t258 then ((limnerlaw03_awake.f k2).bind fun t322 => (some t322)) else (none)))) else (none))) else (none))) else (none))) else (none))) else (none)) else (none))) else (none)) else (none))) else (none))) else (none)) else (none))) else (none))) else (none))) = some r := by first | (rw [hy273]; with_reducible exact H) | (have H2_ := (Option.bind_some _ _).symm.trans H; rw [hy273]; with_reducible exact H2_) | (have H2_ := (Option.bind_some _ _).symm.trans H; with_reducible exact H2_) | with_reducible exact H | (rw [hy273]; exact H) | exact H
                    have Ny273 := Aside0.mk hy273
                    clear hy273
                    have c50b0 := eq_true (of_decide_eq_true (by first | (with_reducible assumption) | assumption) : 0 ≤ a2)
                    have c51b0 := eq_true (of_decide_eq_true (by first | (with_reducible assumption) | assumption) : a2 ≤ (l0.length : Int))
                    obtain ⟨y276, hy276⟩ : ∃ y_ : List (S24), y_ = (l0.take (a2 : Int).toNat) := ⟨_, rfl⟩
                    replace H : (if y273.length + y276.length < 8796093022208 then ((some (([] : List (S24)) : List (S24))).bind fun y283 => (if y283.length + l0.length < 8796093022208 then ((some (y283 ++ l0 : List (S24))).bind fun y286 => (if 0 ≤ (wrap64 ((l0.length : Int) - 1)) then (if (wrap64 ((l0.length : Int) - 1)) < (l0.length : Int) then ((some (([(⟨(rd_T24 l0 (wrap64 ((l0.length : Int) - 1))).f0, (rd_T24 l0 (wrap64 ((l0.length : Int) - 1))).f1⟩ : S24)] : List (S24)) : List (S24))).bind fun y290 => (if y286.length + y290.length < 8796093022208 then ((some (([] : List (S24)) : List (S24))).bind fun y296 => (if 0 ≤ (wrap64 (a2 + 1)) then (if (wrap64 (a2 + 1)) ≤ (l0.length : Int) then ((some (l0.take ((wrap64 (a2 + 1)) : Int).toNat : List (S24))).bind fun y299 => (if y296.length + y299.length < 8796093022208 then (if 0 < (l0.length : Int) then ((some (([(⟨(rd_T24 l0 0).f0, (rd_T24 l0 0).f1⟩ : S24)] : List (S24)) : List (S24))).bind fun y307 => (if y307.length + y269.length < 8796093022208 then ((geom_Winds.f k2 x8_2 a1_0 a1_1).bind fun t317 => (if t317 = (wrap64 (-t258)) then ((geom_Winds.f k2 (y273 ++ y276) a1_0 a1_1).bind fun t318 => (if t318 = t258 then ((geom_Winds.f k2 (y286 ++ y290) a1_0 a1_1).bind fun t319 => (if t319 = t258 then ((geom_Winds.f k2 (y296 ++ y299) a1_0 a1_1).bind fun t320 => ((geom_Winds.f k2 (y307 ++ y269) a1_0 a1_1).bind fun t321 => (if (wrap64 (t320 + t321)) = t258 then ((limnerlaw03_awake.f k2).bind fun t322 => (some t322)) else (none)))) else (none))) else (none))) else (none))) else (none))) else (none)) else (none))) else (none)) else (none))) else (none))) else (none)) else (none))) else (none))) else (none)) = some r := by first | (rw [hy276]; with_reducible exact H) | (have H2_ := (Option.bind_some _ _).symm.trans H; rw [hy276]; with_reducible exact H2_) | (have H2_ := (Option.bind_some _ _).symm.trans H; with_reducible exact H2_) | with_reducible exact H | (rw [hy276]; exact H) | exact H
                    have Ny276 := Aside0.mk hy276
                    clear hy276
                    by_cases c52 : y273.length + y276.length < 8796093022208
                    · rw [if_pos c52] at H
                      have LMc52 := Aside0.mk c52
                      clear c52
                      obtain ⟨y280, hy280⟩ : ∃ y_ : List (S24), y_ = (y273 ++ y276) := ⟨_, rfl⟩
                      replace H : ((some (([] : List (S24)) : List (S24))).bind fun y283 => (if y283.length + l0.length < 8796093022208 then ((some (y283 ++ l0 : List (S24))).bind fun y286 => (if 0 ≤ (wrap64 ((l0.length : Int) - 1)) then (if (wrap64 ((l0.length : Int) - 1)) < (l0.length : Int) then ((some (([(⟨(rd_T24 l0 (wrap64 ((l0.length : Int) - 1))).f0, (rd_T24 l0 (wrap64 ((l0.length : Int) - 1))).f1⟩ : S24)] : List (S24)) : List (S24))).bind fun y290 => (if y286.length + y290.length < 8796093022208 then ((some (([] : List (S24)) : List (S24))).bind fun y296 => (if 0 ≤ (wrap64 (a2 + 1)) then (if (wrap64 (a2 + 1)) ≤ (l0.length : Int) then ((some (l0.take ((wrap64 (a2 + 1)) : Int).toNat : List (S24))).bind fun y299 => (if y296.length + y299.length < 8796093022208 then (if 0 < (l0.length : Int) then ((some (([(⟨(rd_T24 l0 0).f0, (rd_T24 l0 0).f1⟩ : S24)] : List (S24)) : List (S24))).bind fun y307 => (if y307.length + y269.length < 8796093022208 then ((geom_Winds.f k2 x8_2 a1_0 a1_1).bind fun t317 => (if t317 = (wrap64 (-t258)) then ((geom_Winds.f k2 y280 a1_0 a1_1).bind fun t318 => (if t318 = t258 then ((geom_Winds.f k2 (y286 ++ y290) a1_0 a1_1).bind fun t319 => (if t319 = t258 then ((geom_Winds.f k2 (y296 ++ y299) a1_0 a1_1).bind fun t320 => ((geom_Winds.f k2 (y307 ++ y269) a1_0 a1_1).bind fun t321 => (if (wrap64 (t320 + t321)) = t258 then ((limnerlaw03_awake.f k2).bind fun t322 => (some t322)) else (none)))) else (none))) else (none))) else (none))) else (none))) else (none)) else (none))) else (none)) else (none))) else (none))) else (none)) else (none))) else (none))) = some r := by first | (rw [hy280]; with_reducible exact H) | (have H2_ := (Option.bind_some _ _).symm.trans H; rw [hy280]; with_reducible exact H2_) | (have H2_ := (Option.bind_some _ _).symm.trans H; with_reducible exact H2_) | with_reducible exact H | (rw [hy280]; exact H) | exact H
                      have Ny280 := Aside0.mk hy280
                      clear hy280
                      obtain ⟨y283, hy283⟩ : ∃ y_ : List (S24), y_ = (([] : List (S24))) := ⟨_, rfl⟩
                      replace H : (if y283.length + l0.length < 8796093022208 then ((some (y283 ++ l0 : List (S24))).bind fun y286 => (if 0 ≤ (wrap64 ((l0.length : Int) - 1)) then (if (wrap64 ((l0.length : Int) - 1)) < (l0.length : Int) then ((some (([(⟨(rd_T24 l0 (wrap64 ((l0.length : Int) - 1))).f0, (rd_T24 l0 (wrap64 ((l0.length : Int) - 1))).f1⟩ : S24)] : List (S24)) : List (S24))).bind fun y290 => (if y286.length + y290.length < 8796093022208 then ((some (([] : List (S24)) : List (S24))).bind fun y296 => (if 0 ≤ (wrap64 (a2 + 1)) then (if (wrap64 (a2 + 1)) ≤ (l0.length : Int) then ((some (l0.take ((wrap64 (a2 + 1)) : Int).toNat : List (S24))).bind fun y299 => (if y296.length + y299.length < 8796093022208 then (if 0 < (l0.length : Int) then ((some (([(⟨(rd_T24 l0 0).f0, (rd_T24 l0 0).f1⟩ : S24)] : List (S24)) : List (S24))).bind fun y307 => (if y307.length + y269.length < 8796093022208 then ((geom_Winds.f k2 x8_2 a1_0 a1_1).bind fun t317 => (if t317 = (wrap64 (-t258)) then ((geom_Winds.f k2 y280 a1_0 a1_1).bind fun t318 => (if t318 = t258 then ((geom_Winds.f k2 (y286 ++ y290) a1_0 a1_1).bind fun t319 => (if t319 = t258 then ((geom_Winds.f k2 (y296 ++ y299) a1_0 a1_1).bind fun t320 => ((geom_Winds.f k2 (y307 ++ y269) a1_0 a1_1).bind fun t321 => (if (wrap64 (t320 + t321)) = t258 then ((limnerlaw03_awake.f k2).bind fun t322 => (some t322)) else (none)))) else (none))) else (none))) else (none))) else (none))) else (none)) else (none))) else (none)) else (none))) else (none))) else (none)) else (none))) else (none)) = some r := by first | (rw [hy283]; with_reducible exact H) | (have H2_ := (Option.bind_some _ _).symm.trans H; rw [hy283]; with_reducible exact H2_) | (have H2_ := (Option.bind_some _ _).symm.trans H; with_reducible exact H2_) | with_reducible exact H | (rw [hy283]; exact H) | exact H
                      have Ny283 := Aside0.mk hy283
                      clear hy283
                      by_cases c53 : y283.length + l0.length < 8796093022208
                      · rw [if_pos c53] at H
                        have LMc53 := Aside0.mk c53
                        clear c53
                        obtain ⟨y286, hy286⟩ : ∃ y_ : List (S24), y_ = (y283 ++ l0) := ⟨_, rfl⟩
                        replace H : (if 0 ≤ (wrap64 ((l0.length : Int) - 1)) then (if (wrap64 ((l0.length : Int) - 1)) < (l0.length : Int) then ((some (([(⟨(rd_T24 l0 (wrap64 ((l0.length : Int) - 1))).f0, (rd_T24 l0 (wrap64 ((l0.length : Int) - 1))).f1⟩ : S24)] : List (S24)) : List (S24))).bind fun y290 => (if y286.length + y290.length < 8796093022208 then ((some (([] : List (S24)) : List (S24))).bind fun y296 => (if 0 ≤ (wrap64 (a2 + 1)) then (if (wrap64 (a2 + 1)) ≤ (l0.length : Int) then ((some (l0.take ((wrap64 (a2 + 1)) : Int).toNat : List (S24))).bind fun y299 => (if y296.length + y299.length < 8796093022208 then (if 0 < (l0.length : Int) then ((some (([(⟨(rd_T24 l0 0).f0, (rd_T24 l0 0).f1⟩ : S24)] : List (S24)) : List (S24))).bind fun y307 => (if y307.length + y269.length < 8796093022208 then ((geom_Winds.f k2 x8_2 a1_0 a1_1).bind fun t317 => (if t317 = (wrap64 (-t258)) then ((geom_Winds.f k2 y280 a1_0 a1_1).bind fun t318 => (if t318 = t258 then ((geom_Winds.f k2 (y286 ++ y290) a1_0 a1_1).bind fun t319 => (if t319 = t258 then ((geom_Winds.f k2 (y296 ++ y299) a1_0 a1_1).bind fun t320 => ((geom_Winds.f k2 (y307 ++ y269) a1_0 a1_1).bind fun t321 => (if (wrap64 (t320 + t321)) = t258 then ((limnerlaw03_awake.f k2).bind fun t322 => (some t322)) else (none)))) else (none))) else (none))) else (none))) else (none))) else (none)) else (none))) else (none)) else (none))) else (none))) else (none)) else (none)) = some r := by first | (rw [hy286]; with_reducible exact H) | (have H2_ := (Option.bind_some _ _).symm.trans H; rw [hy286]; with_reducible exact H2_) | (have H2_ := (Option.bind_some _ _).symm.trans H; with_reducible exact H2_) | with_reducible exact H | (rw [hy286]; exact H) | exact H
                        have Ny286 := Aside0.mk hy286
                        clear hy286
                        obtain ⟨ji54, hji54⟩ : ∃ j_ : Int, (wrap64 ((l0.length : Int) - 1)) = j_ := ⟨_, rfl⟩
                        replace H : (if 0 ≤ (ji54) then (if (ji54) < (l0.length : Int) then ((some (([(⟨(rd_T24 l0 (ji54)).f0, (rd_T24 l0 (ji54)).f1⟩ : S24)] : List (S24)) : List (S24))).bind fun y290 => (if y286.length + y290.length < 8796093022208 then ((some (([] : List (S24)) : List (S24))).bind fun y296 => (if 0 ≤ (wrap64 (a2 + 1)) then (if (wrap64 (a2 + 1)) ≤ (l0.length : Int) then ((some (l0.take ((wrap64 (a2 + 1)) : Int).toNat : List (S24))).bind fun y299 => (if y296.length + y299.length < 8796093022208 then (if 0 < (l0.length : Int) then ((some (([(⟨(rd_T24 l0 0).f0, (rd_T24 l0 0).f1⟩ : S24)] : List (S24)) : List (S24))).bind fun y307 => (if y307.length + y269.length < 8796093022208 then ((geom_Winds.f k2 x8_2 a1_0 a1_1).bind fun t317 => (if t317 = (wrap64 (-t258)) then ((geom_Winds.f k2 y280 a1_0 a1_1).bind fun t318 => (if t318 = t258 then ((geom_Winds.f k2 (y286 ++ y290) a1_0 a1_1).bind fun t319 => (if t319 = t258 then ((geom_Winds.f k2 (y296 ++ y299) a1_0 a1_1).bind fun t320 => ((geom_Winds.f k2 (y307 ++ y269) a1_0 a1_1).bind fun t321 => (if (wrap64 (t320 + t321)) = t258 then ((limnerlaw03_awake.f k2).bind fun t322 => (some t322)) else (none)))) else (none))) else (none))) else (none))) else (none))) else (none)) else (none))) else (none)) else (none))) else (none))) else (none)) else (none)) = some r := by first | (rw [hji54] at H; exact H) | (simp only [hji54] at H ⊢; exact H)
                        have hji54w : (IntKind.i64.wrap ((l0.length : Int) - 1)) = ji54 := (i64_w _).trans hji54
                        by_cases c55 : 0 ≤ (ji54)
                        · rw [if_pos c55] at H
                          have c55b0 : decide (0 ≤ (ji54)) = true := decide_eq_true c55
                          clear c55
                          by_cases c56 : (ji54) < (l0.length : Int)
                          · rw [if_pos c56] at H
                            have c56b0 : decide ((ji54) < (l0.length : Int)) = true := decide_eq_true c56
                            clear c56
                            obtain ⟨y290, hy290⟩ : ∃ y_ : List (S24), y_ = (([(⟨(rd_T24 l0 (ji54)).f0, (rd_T24 l0 (ji54)).f1⟩ : S24)] : List (S24))) := ⟨_, rfl⟩
                            replace H : (if y286.length + y290.length < 8796093022208 then ((some (([] : List (S24)) : List (S24))).bind fun y296 => (if 0 ≤ (wrap64 (a2 + 1)) then (if (wrap64 (a2 + 1)) ≤ (l0.length : Int) then ((some (l0.take ((wrap64 (a2 + 1)) : Int).toNat : List (S24))).bind fun y299 => (if y296.length + y299.length < 8796093022208 then (if 0 < (l0.length : Int) then ((some (([(⟨(rd_T24 l0 0).f0, (rd_T24 l0 0).f1⟩ : S24)] : List (S24)) : List (S24))).bind fun y307 => (if y307.length + y269.length < 8796093022208 then ((geom_Winds.f k2 x8_2 a1_0 a1_1).bind fun t317 => (if t317 = (wrap64 (-t258)) then ((geom_Winds.f k2 y280 a1_0 a1_1).bind fun t318 => (if t318 = t258 then ((geom_Winds.f k2 (y286 ++ y290) a1_0 a1_1).bind fun t319 => (if t319 = t258 then ((geom_Winds.f k2 (y296 ++ y299) a1_0 a1_1).bind fun t320 => ((geom_Winds.f k2 (y307 ++ y269) a1_0 a1_1).bind fun t321 => (if (wrap64 (t320 + t321)) = t258 then ((limnerlaw03_awake.f k2).bind fun t322 => (some t322)) else (none)))) else (none))) else (none))) else (none))) else (none))) else (none)) else (none))) else (none)) else (none))) else (none)) = some r := by first | (rw [hy290]; with_reducible exact H) | (have H2_ := (Option.bind_some _ _).symm.trans H; rw [hy290]; with_reducible exact H2_) | (have H2_ := (Option.bind_some _ _).symm.trans H; with_reducible exact H2_) | with_reducible exact H | (rw [hy290]; exact H) | exact H
                            have Ny290 := Aside0.mk hy290
                            clear hy290
                            by_cases c57 : y286.length + y290.length < 8796093022208
                            · rw [if_pos c57] at H
                              have LMc57 := Aside0.mk c57
                              clear c57
                              obtain ⟨y293, hy293⟩ : ∃ y_ : List (S24), y_ = (y286 ++ y290) := ⟨_, rfl⟩
                              replace H : ((some (([] : List (S24)) : List (S24))).bind fun y296 => (if 0 ≤ (wrap64 (a2 + 1)) then (if (wrap64 (a2 + 1)) ≤ (l0.length : Int) then ((some (l0.take ((wrap64 (a2 + 1)) : Int).toNat : List (S24))).bind fun y299 => (if y296.length + y299.length < 8796093022208 then (if 0 < (l0.length : Int) then ((some (([(⟨(rd_T24 l0 0).f0, (rd_T24 l0 0).f1⟩ : S24)] : List (S24)) : List (S24))).bind fun y307 => (if y307.length + y269.length < 8796093022208 then ((geom_Winds.f k2 x8_2 a1_0 a1_1).bind fun t317 => (if t317 = (wrap64 (-t258)) then ((geom_Winds.f k2 y280 a1_0 a1_1).bind fun t318 => (if t318 = t258 then ((geom_Winds.f k2 y293 a1_0 a1_1).bind fun t319 => (if t319 = t258 then ((geom_Winds.f k2 (y296 ++ y299) a1_0 a1_1).bind fun t320 => ((geom_Winds.f k2 (y307 ++ y269) a1_0 a1_1).bind fun t321 => (if (wrap64 (t320 + t321)) = t258 then ((limnerlaw03_awake.f k2).bind fun t322 => (some t322)) else (none)))) else (none))) else (none))) else (none))) else (none))) else (none)) else (none))) else (none)) else (none))) = some r := by first | (rw [hy293]; with_reducible exact H) | (have H2_ := (Option.bind_some _ _).symm.trans H; rw [hy293]; with_reducible exact H2_) | (have H2_ := (Option.bind_some _ _).symm.trans H; with_reducible exact H2_) | with_reducible exact H | (rw [hy293]; exact H) | exact H
                              have Ny293 := Aside0.mk hy293
                              clear hy293
                              obtain ⟨y296, hy296⟩ : ∃ y_ : List (S24), y_ = (([] : List (S24))) := ⟨_, rfl⟩
                              replace H : (if 0 ≤ (wrap64 (a2 + 1)) then (if (wrap64 (a2 + 1)) ≤ (l0.length : Int) then ((some (l0.take ((wrap64 (a2 + 1)) : Int).toNat : List (S24))).bind fun y299 => (if y296.length + y299.length < 8796093022208 then (if 0 < (l0.length : Int) then ((some (([(⟨(rd_T24 l0 0).f0, (rd_T24 l0 0).f1⟩ : S24)] : List (S24)) : List (S24))).bind fun y307 => (if y307.length + y269.length < 8796093022208 then ((geom_Winds.f k2 x8_2 a1_0 a1_1).bind fun t317 => (if t317 = (wrap64 (-t258)) then ((geom_Winds.f k2 y280 a1_0 a1_1).bind fun t318 => (if t318 = t258 then ((geom_Winds.f k2 y293 a1_0 a1_1).bind fun t319 => (if t319 = t258 then ((geom_Winds.f k2 (y296 ++ y299) a1_0 a1_1).bind fun t320 => ((geom_Winds.f k2 (y307 ++ y269) a1_0 a1_1).bind fun t321 => (if (wrap64 (t320 + t321)) = t258 then ((limnerlaw03_awake.f k2).bind fun t322 => (some t322)) else (none)))) else (none))) else (none))) else (none))) else (none))) else (none)) else (none))) else (none)) else (none)) = some r := by first | (rw [hy296]; with_reducible exact H) | (have H2_ := (Option.bind_some _ _).symm.trans H; rw [hy296]; with_reducible exact H2_) | (have H2_ := (Option.bind_some _ _).symm.trans H; with_reducible exact H2_) | with_reducible exact H | (rw [hy296]; exact H) | exact H
                              have Ny296 := Aside0.mk hy296
                              clear hy296
                              obtain ⟨ji58, hji58⟩ : ∃ j_ : Int, (wrap64 (a2 + 1)) = j_ := ⟨_, rfl⟩
                              replace H : (if 0 ≤ (ji58) then (if (ji58) ≤ (l0.length : Int) then ((some (l0.take ((ji58) : Int).toNat : List (S24))).bind fun y299 => (if y296.length + y299.length < 8796093022208 then (if 0 < (l0.length : Int) then ((some (([(⟨(rd_T24 l0 0).f0, (rd_T24 l0 0).f1⟩ : S24)] : List (S24)) : List (S24))).bind fun y307 => (if y307.length + y269.length < 8796093022208 then ((geom_Winds.f k2 x8_2 a1_0 a1_1).bind fun t317 => (if t317 = (wrap64 (-t258)) then ((geom_Winds.f k2 y280 a1_0 a1_1).bind fun t318 => (if t318 = t258 then ((geom_Winds.f k2 y293 a1_0 a1_1).bind fun t319 => (if t319 = t258 then ((geom_Winds.f k2 (y296 ++ y299) a1_0 a1_1).bind fun t320 => ((geom_Winds.f k2 (y307 ++ y269) a1_0 a1_1).bind fun t321 => (if (wrap64 (t320 + t321)) = t258 then ((limnerlaw03_awake.f k2).bind fun t322 => (some t322)) else (none)))) else (none))) else (none))) else (none))) else (none))) else (none)) else (none))) else (none)) else (none)) = some r := by first | (rw [hji58] at H; exact H) | (simp only [hji58] at H ⊢; exact H)
                              have hji58w : (IntKind.i64.wrap (a2 + 1)) = ji58 := (i64_w _).trans hji58
                              by_cases c59 : 0 ≤ (ji58)
                              · rw [if_pos c59] at H
                                have c59b0 := eq_true c59
                                have c59b1 : decide (0 ≤ (ji58)) = true := decide_eq_true c59
                                clear c59
                                by_cases c60 : (ji58) ≤ (l0.length : Int)
                                · rw [if_pos c60] at H
                                  have c60b0 := eq_true c60
                                  have c60b1 : decide ((ji58) ≤ (l0.length : Int)) = true := decide_eq_true c60
                                  clear c60
                                  obtain ⟨y299, hy299⟩ : ∃ y_ : List (S24), y_ = (l0.take ((ji58) : Int).toNat) := ⟨_, rfl⟩
                                  replace H : (if y296.length + y299.length < 8796093022208 then (if 0 < (l0.length : Int) then ((some (([(⟨(rd_T24 l0 0).f0, (rd_T24 l0 0).f1⟩ : S24)] : List (S24)) : List (S24))).bind fun y307 => (if y307.length + y269.length < 8796093022208 then ((geom_Winds.f k2 x8_2 a1_0 a1_1).bind fun t317 => (if t317 = (wrap64 (-t258)) then ((geom_Winds.f k2 y280 a1_0 a1_1).bind fun t318 => (if t318 = t258 then ((geom_Winds.f k2 y293 a1_0 a1_1).bind fun t319 => (if t319 = t258 then ((geom_Winds.f k2 (y296 ++ y299) a1_0 a1_1).bind fun t320 => ((geom_Winds.f k2 (y307 ++ y269) a1_0 a1_1).bind fun t321 => (if (wrap64 (t320 + t321)) = t258 then ((limnerlaw03_awake.f k2).bind fun t322 => (some t322)) else (none)))) else (none))) else (none))) else (none))) else (none))) else (none)) else (none)) = some r := by first | (rw [hy299]; with_reducible exact H) | (have H2_ := (Option.bind_some _ _).symm.trans H; rw [hy299]; with_reducible exact H2_) | (have H2_ := (Option.bind_some _ _).symm.trans H; with_reducible exact H2_) | with_reducible exact H | (rw [hy299]; exact H) | exact H
                                  have Ny299 := Aside0.mk hy299
                                  clear hy299
                                  by_cases c61 : y296.length + y299.length < 8796093022208
                                  · rw [if_pos c61] at H
                                    have LMc61 := Aside0.mk c61
                                    clear c61
                                    obtain ⟨y303, hy303⟩ : ∃ y_ : List (S24), y_ = (y296 ++ y299) := ⟨_, rfl⟩
                                    replace H : (if 0 < (l0.length : Int) then ((some (([(⟨(rd_T24 l0 0).f0, (rd_T24 l0 0).f1⟩ : S24)] : List (S24)) : List (S24))).bind fun y307 => (if y307.length + y269.length < 8796093022208 then ((geom_Winds.f k2 x8_2 a1_0 a1_1).bind fun t317 => (if t317 = (wrap64 (-t258)) then ((geom_Winds.f k2 y280 a1_0 a1_1).bind fun t318 => (if t318 = t258 then ((geom_Winds.f k2 y293 a1_0 a1_1).bind fun t319 => (if t319 = t258 then ((geom_Winds.f k2 y303 a1_0 a1_1).bind fun t320 => ((geom_Winds.f k2 (y307 ++ y269) a1_0 a1_1).bind fun t321 => (if (wrap64 (t320 + t321)) = t258 then ((limnerlaw03_awake.f k2).bind fun t322 => (some t322)) else (none)))) else (none))) else (none))) else (none))) else (none))) else (none)) = some r := by first | (rw [hy303]; with_reducible exact H) | (have H2_ := (Option.bind_some _ _).symm.trans H; rw [hy303]; with_reducible exact H2_) | (have H2_ := (Option.bind_some _ _).symm.trans H; with_reducible exact H2_) | with_reducible exact H | (rw [hy303]; exact H) | exact H
                                    have Ny303 := Aside0.mk hy303
                                    clear hy303
                                    by_cases c62 : 0 < (l0.length : Int)
                                    · rw [if_pos c62] at H
                                      have c62b0 : decide (0 < (l0.length : Int)) = true := decide_eq_true c62
                                      have c62b1 : decide (0 < l0.length) = true := decide_eq_true (by omega)
                                      clear c62
                                      obtain ⟨y307, hy307⟩ : ∃ y_ : List (S24), y_ = (([(⟨(rd_T24 l0 0).f0, (rd_T24 l0 0).f1⟩ : S24)] : List (S24))) := ⟨_, rfl⟩
                                      replace H : (if y307.length + y269.length < 8796093022208 then ((geom_Winds.f k2 x8_2 a1_0 a1_1).bind fun t317 => (if t317 = (wrap64 (-t258)) then ((geom_Winds.f k2 y280 a1_0 a1_1).bind fun t318 => (if t318 = t258 then ((geom_Winds.f k2 y293 a1_0 a1_1).bind fun t319 => (if t319 = t258 then ((geom_Winds.f k2 y303 a1_0 a1_1).bind fun t320 => ((geom_Winds.f k2 (y307 ++ y269) a1_0 a1_1).bind fun t321 => (if (wrap64 (t320 + t321)) = t258 then ((limnerlaw03_awake.f k2).bind fun t322 => (some t322)) else (none)))) else (none))) else (none))) else (none))) else (none)) = some r := by first | (rw [hy307]; with_reducible exact H) | (have H2_ := (Option.bind_some _ _).symm.trans H; rw [hy307]; with_reducible exact H2_) | (have H2_ := (Option.bind_some _ _).symm.trans H; with_reducible exact H2_) | with_reducible exact H | (rw [hy307]; exact H) | exact H
                                      have Ny307 := Aside0.mk hy307
                                      clear hy307
                                      by_cases c63 : y307.length + y269.length < 8796093022208
                                      · rw [if_pos c63] at H
                                        have LMc63 := Aside0.mk c63
                                        clear c63
                                        obtain ⟨y314, hy314⟩ : ∃ y_ : List (S24), y_ = (y307 ++ y269) := ⟨_, rfl⟩
                                        replace H : ((geom_Winds.f k2 x8_2 a1_0 a1_1).bind fun t317 => (if t317 = (wrap64 (-t258)) then ((geom_Winds.f k2 y280 a1_0 a1_1).bind fun t318 => (if t318 = t258 then ((geom_Winds.f k2 y293 a1_0 a1_1).bind fun t319 => (if t319 = t258 then ((geom_Winds.f k2 y303 a1_0 a1_1).bind fun t320 => ((geom_Winds.f k2 y314 a1_0 a1_1).bind fun t321 => (if (wrap64 (t320 + t321)) = t258 then ((limnerlaw03_awake.f k2).bind fun t322 => (some t322)) else (none)))) else (none))) else (none))) else (none))) = some r := by first | (rw [hy314]; with_reducible exact H) | (have H2_ := (Option.bind_some _ _).symm.trans H; rw [hy314]; with_reducible exact H2_) | (have H2_ := (Option.bind_some _ _).symm.trans H; with_reducible exact H2_) | with_reducible exact H | (rw [hy314]; exact H) | exact H
                                        have Ny314 := Aside0.mk hy314
                                        clear hy314
                                        replace H := Option.bind_eq_some_iff.mp H
                                        obtain ⟨t317, A640, H⟩ := H
                                        replace H : (if t317 = (wrap64 (-t258)) then ((geom_Winds.f k2 y280 a1_0 a1_1).bind fun t318 => (if t318 = t258 then ((geom_Winds.f k2 y293 a1_0 a1_1).bind fun t319 => (if t319 = t258 then ((geom_Winds.f k2 y303 a1_0 a1_1).bind fun t320 => ((geom_Winds.f k2 y314 a1_0 a1_1).bind fun t321 => (if (wrap64 (t320 + t321)) = t258 then ((limnerlaw03_awake.f k2).bind fun t322 => (some t322)) else (none)))) else (none))) else (none))) else (none)) = some r := H
                                        have A64 := Aside0.mk A640
                                        clear A640
                                        by_cases c65 : t317 = (wrap64 (-t258))
                                        · rw [if_pos c65] at H
                                          have c65b0 : (t317 == (wrap64 (-t258))) = true := beq_iff_eq.mpr c65
                                          have c65b1 : (t317 != (wrap64 (-t258))) = false := bne_eq_false_iff_eq.mpr c65
                                          clear c65
                                          replace H := Option.bind_eq_some_iff.mp H
                                          obtain ⟨t318, A660, H⟩ := H
                                          replace H : (if t318 = t258 then ((geom_Winds.f k2 y293 a1_0 a1_1).bind fun t319 => (if t319 = t258 then ((geom_Winds.f k2 y303 a1_0 a1_1).bind fun t320 => ((geom_Winds.f k2 y314 a1_0 a1_1).bind fun t321 => (if (wrap64 (t320 + t321)) = t258 then ((limnerlaw03_awake.f k2).bind fun t322 => (some t322)) else (none)))) else (none))) else (none)) = some r := H
                                          have A66 := Aside0.mk A660
                                          clear A660
                                          by_cases c67 : t318 = t258
                                          · rw [if_pos c67] at H
                                            have c67b0 : (t318 == t258) = true := beq_iff_eq.mpr c67
                                            have c67b1 : (t318 != t258) = false := bne_eq_false_iff_eq.mpr c67
                                            clear c67
                                            replace H := Option.bind_eq_some_iff.mp H
                                            obtain ⟨t319, A680, H⟩ := H
                                            replace H : (if t319 = t258 then ((geom_Winds.f k2 y303 a1_0 a1_1).bind fun t320 => ((geom_Winds.f k2 y314 a1_0 a1_1).bind fun t321 => (if (wrap64 (t320 + t321)) = t258 then ((limnerlaw03_awake.f k2).bind fun t322 => (some t322)) else (none)))) else (none)) = some r := H
                                            have A68 := Aside0.mk A680
                                            clear A680
                                            by_cases c69 : t319 = t258
                                            · rw [if_pos c69] at H
                                              have c69b0 : (t319 == t258) = true := beq_iff_eq.mpr c69
                                              have c69b1 : (t319 != t258) = false := bne_eq_false_iff_eq.mpr c69
                                              clear c69
                                              replace H := Option.bind_eq_some_iff.mp H
                                              obtain ⟨t320, A700, H⟩ := H
                                              replace H : ((geom_Winds.f k2 y314 a1_0 a1_1).bind fun t321 => (if (wrap64 (t320 + t321)) = t258 then ((limnerlaw03_awake.f k2).bind fun t322 => (some t322)) else (none))) = some r := H
                                              have A70 := Aside0.mk A700
                                              clear A700
                                              replace H := Option.bind_eq_some_iff.mp H
                                              obtain ⟨t321, A710, H⟩ := H
                                              replace H : (if (wrap64 (t320 + t321)) = t258 then ((limnerlaw03_awake.f k2).bind fun t322 => (some t322)) else (none)) = some r := H
                                              have A71 := Aside0.mk A710
                                              clear A710
                                              by_cases c72 : (wrap64 (t320 + t321)) = t258
                                              · rw [if_pos c72] at H
                                                have c72b0 : ((wrap64 (t320 + t321)) == t258) = true := beq_iff_eq.mpr c72
                                                have c72b1 : ((wrap64 (t320 + t321)) != t258) = false := bne_eq_false_iff_eq.mpr c72
                                                clear c72
                                                replace H := Option.bind_eq_some_iff.mp H
                                                obtain ⟨t322, A730, H⟩ := H
                                                replace H : (some t322) = some r := H
                                                have A73 := Aside0.mk A730
                                                clear A730
                                                obtain rfl := Option.some.inj H
                                                try go_wp2
                                                have n0_ := Aside0.mk (Kd.R_drew HO_8.out)
                                                have n1_ := Aside0.mk (blk_drew BK251.out)
                                                have n2_ := Aside0.mk (below_drew1 HB.out)
                                                clear HO_8
                                                clear BK251
                                                clear HB
                                                have HO_8 := n0_
                                                have BK251 := n1_
                                                have HB := n2_
                                                clear n0_ n1_ n2_
                                                have q75 : (a2 : Int) ≤ ((l0.length : Int) : Int) := of_decide_eq_true (by first | (with_reducible assumption) | assumption)
                                                obtain ⟨i075, hi075, _, hsz75, _⟩ := info_parts info24
                                                have hroom75 : l0.length ≤ c0 := HC0.out
                                                have hC75 : Kd.C k24 _ A0 l0.length l0 := HR0.out
                                                have q075 : (0 : Int) ≤ (a2 : Int) := of_decide_eq_true (by first | (with_reducible assumption) | assumption)
                                                have hcut75 := cut_from (P := Try.prog) 22 24 .i64 Try.underlying22 hi075 2 hsz75 A0 l0.length c0 a2 q075 q75
                                                have hr75 := Kd.C_drop (m := (a2 : Int).toNat) (c := c0) hC75 (by omega) hroom75
                                                obtain ⟨A75, hA75⟩ : ∃ A1, A1 = (if c0 = (a2 : Int).toNat then A0 else (A0 : Option Addr).map (·.add ((a2 : Int).toNat * 2))) := ⟨_, rfl⟩
                                                obtain ⟨c75, hc75⟩ : ∃ c1, c1 = c0 - (a2 : Int).toNat := ⟨_, rfl⟩
                                                have hy75 : y269.length = l0.length - (a2 : Int).toNat := (by rw [Ny269.out, List.length_drop] <;> omega)
                                                rw [show (l0).drop (a2 : Int).toNat = y269 from Ny269.out.symm] at hr75
                                                replace hr75 : Kd.C k24 _ A75 y269.length y269 := (by rw [hA75]; exact hr75)
                                                rw [← hy75, ← hA75, ← hc75] at hcut75
                                                have HR272 := Aside0.mk hr75
                                                have HC272 := Aside0.mk (show y269.length ≤ c75 from by rw [hy75, hc75]; exact Nat.sub_le_sub_right hroom75 _)
                                                clear hr75 hC75 hroom75 hi075 hsz75 hc75
                                                have KY75 := Aside0.mk hy75
                                                have KA75 := Aside0.mk hA75
                                                clear hy75 hA75
                                                replace q75 := eq_true q75
                                                have q76 : (a2 : Int) ≤ ((l0.length : Int) : Int) := of_decide_eq_true (by first | (with_reducible assumption) | assumption)
                                                obtain ⟨i076, hi076, _, hsz76, _⟩ := info_parts info24
                                                have hroom76 : l0.length ≤ c0 := HC0.out
                                                have hC76 : Kd.C k24 _ A0 l0.length l0 := HR0.out
                                                have hcut76 := cut_to (P := Try.prog) 22 24 .i64 Try.underlying22 hi076 A0 l0.length c0 a2 (of_decide_eq_true (by first | (with_reducible assumption) | assumption)) q76 hroom76
                                                have hr76 := Kd.C_take (m := (a2 : Int).toNat) hC76 (by omega)
                                                have hy76 : y276.length = (a2 : Int).toNat := (by rw [Ny276.out, List.length_take]; omega)
                                                rw [← Ny276.out] at hr76
                                                rw [← hy76] at hcut76
                                                have HR279 := Aside0.mk hr76
                                                have HC279 := Aside0.mk (show y276.length ≤ c0 from by omega)
                                                clear hr76 hC76 hroom76 hi076 hsz76
                                                have KY76 := Aside0.mk hy76
                                                clear hy76
                                                replace q76 := eq_true q76
                                                refine start_ (n := 10) (S := fun w' => True) (ds := []) #[false, false, false, false, false, false, false, false, false, false] (by kernel_rfl) rfl rfl trivial (fun hHeld => ?_); refine with_tabW limnerlaw03_GeomTurns.tab10 limnerlaw03_GeomTurns.bits10 (fun HT_ HW_ => ?_)
                                                generalize wr.drew = w74 at HO_8 BK251 HB HR272 HR279 hHeld ⊢
                                                refine pure_ (i := 1) (N := some 65) (v := ?_) (a' := ?_) #[false, true, false, false, false, false, false, false, false, false] rfl rfl (any_of HT_.out (by kernel_rfl)) (fun _ _ _ h => h) (Or.inl ⟨by rfl, ?_⟩) ?_ ?_
                                                rotate_left
                                                · intro w'
                                                  go_simp
                                                  with_reducible rfl
                                                rotate_left
                                                · simp only [Act.put, List.setIfInBounds_toArray, List.set_cons_zero, List.set_cons_succ, i64_w, i32_w]
                                                  rfl
                                                refine pure_ (i := 2) (N := some 66) (v := ?_) (a' := ?_) #[false, true, true, false, false, false, false, false, false, false] rfl rfl (any_of HT_.out (by kernel_rfl)) (fun _ _ _ h => h) (Or.inl ⟨by rfl, ?_⟩) ?_ ?_
                                                rotate_left
                                                · intro w'
                                                  go_simp
                                                  with_reducible rfl
                                                rotate_left
                                                · simp only [Act.put, List.setIfInBounds_toArray, List.set_cons_zero, List.set_cons_succ, i64_w, i32_w]
                                                  rfl
                                                refine pure_ (i := 3) (N := some 67) (v := ?_) (a' := ?_) #[false, true, true, true, false, false, false, false, false, false] rfl rfl (any_of HT_.out (by kernel_rfl)) (fun _ _ _ h => h) (Or.inl ⟨by rfl, ?_⟩) ?_ ?_
                                                rotate_left
                                                · intro w'
                                                  go_simp
                                                  with_reducible rfl
                                                rotate_left
                                                · simp only [Act.put, List.setIfInBounds_toArray, List.set_cons_zero, List.set_cons_succ, i64_w, i32_w]
                                                  rfl
                                                refine pure_ (i := 5) (N := some 69) (v := ?_) (a' := ?_) #[false, true, true, true, false, true, false, false, false, false] rfl rfl (any_of HT_.out (by kernel_rfl)) (fun _ _ _ h => h) (Or.inl ⟨by rfl, ?_⟩) ?_ ?_
                                                rotate_left
                                                · intro w'
                                                  go_simp
                                                  with_reducible rfl
                                                rotate_left
                                                · simp only [Act.put, List.setIfInBounds_toArray, List.set_cons_zero, List.set_cons_succ, i64_w, i32_w]
                                                  rfl
                                                refine pure_ (i := 6) (N := some 70) (v := ?_) (a' := ?_) #[false, true, true, true, false, true, true, false, false, false] rfl rfl (any_of HT_.out (by kernel_rfl)) (fun _ _ _ h => h) (Or.inl ⟨by rfl, ?_⟩) ?_ ?_
                                                rotate_left
                                                · intro w'
                                                  go_simp
                                                  with_reducible rfl
                                                rotate_left
                                                · simp only [Act.put, List.setIfInBounds_toArray, List.set_cons_zero, List.set_cons_succ, i64_w, i32_w]
                                                  rfl
                                                refine pure_ (i := 7) (N := some 71) (v := ?_) (a' := ?_) #[false, true, true, true, false, true, true, true, false, false] rfl rfl (any_of HT_.out (by kernel_rfl)) (fun _ _ _ h => h) (Or.inl ⟨by rfl, ?_⟩) ?_ ?_
                                                rotate_left
                                                · intro w'
                                                  go_simp
                                                  with_reducible rfl
                                                rotate_left
                                                · simp only [Act.put, List.setIfInBounds_toArray, List.set_cons_zero, List.set_cons_succ, i64_w, i32_w]
                                                  rfl
                                                refine one_ (i := 0) (N := some 64) #[true, true, true, true, false, true, true, true, false, false] rfl rfl (one_of HT_.out (by kernel_rfl)) (by decide) (fun K hK => ?_)
                                                refine Kd.R_lit_step k24 _ 24 ?hg (N := 64) ?hd (xs := ([] : List (S24))) (inner := []) (ok := fun _ => True) (okp := fun _ => True) ?hr ?hp (fun _ hk => hk) trivial (Below.refl _ _) (Nat.le_refl _) (by simp) ?_; (case hd => rfl); (case hg => rfl); (case hr => first | (go_simp; done) | (go_simp; rfl)); (case hp => exact (Reps.none _ _))
                                                intro v267 w77 ho78 hb hg_ hnew_
                                                clear hg_ hnew_
                                                (first | rw [← Ny266.out] at ho78 | (simp only [Int.reduceToNat] at ho78; rw [← Ny266.out] at ho78))
                                                have n0_ := Aside0.mk (Kd.R_elder' (by (with_reducible repeat (first | apply Kd.R_alloc | apply Kd.R_drewN | apply Kd.R_drew)); exact HO_8.out) (Kd.R_base ho78) hb)
                                                have n1_ := Aside0.mk (Kd.R_lower (Kd.R_newB (Kd.R_new' ho78 (Kd.R_lt (by (with_reducible repeat (first | apply Kd.R_alloc | apply Kd.R_drewN | apply Kd.R_drew)); exact HO_8.out))) (g := gb251) (o := .cells #[.int .i64 a1_0, .int .i64 a1_1] 24 (0, 0)) (by (with_reducible repeat (first | refine blk_drewN ?_ _ | refine blk_drew ?_ | refine blk_alloc ?_ _)); exact BK251.out)) (below_size (by repeat (first | (with_reducible first | exact HB.out | apply below_alloc | apply pw_below_drewN | apply below_drew1 | refine below_set ?_ GE251.out) | exact HB.out))))
                                                have n2_ := Aside0.mk (blk_below (g := gb251) (o := .cells #[.int .i64 a1_0, .int .i64 a1_1] 24 (0, 0)) (by (with_reducible repeat (first | refine blk_drewN ?_ _ | refine blk_drew ?_ | refine blk_alloc ?_ _)); exact BK251.out) hb)
                                                have n3_ := Aside0.mk (below_step (by repeat (first | (with_reducible first | exact HB.out | apply below_alloc | apply pw_below_drewN | apply below_drew1 | refine below_set ?_ GE251.out) | exact HB.out)) hb)
                                                clear HO_8
                                                clear BK251
                                                clear HB
                                                have HO_8 := n0_
                                                have HO268 := n1_
                                                have BK251 := n2_
                                                have HB := n3_
                                                clear n0_ n1_ n2_ n3_
                                                clear hb ho78
                                                refine hK.out _ _ trivial (fun hHeld => ?_)
                                                clear hK K
                                                refine norm_ (a' := ?_) ?_ ?_
                                                rotate_left
                                                · show Act.put _ (some 64) _ = _
                                                  simp only [Act.put, List.setIfInBounds_toArray, List.set_cons_zero, List.set_cons_succ, i64_w, i32_w]
                                                  rfl
                                                refine one_ (i := 4) (N := some 68) #[true, true, true, true, true, true, true, true, false, false] rfl rfl (one_of HT_.out (by kernel_rfl)) (by decide) (fun K hK => ?_)
                                                refine Kd.R_append_rows_step k24 (w0 := w) w.heap.size (by rfl) (.tmp 64) (.tmp 67) 22 24 (.agg #[(.int .i64 0), (.int .i64 0)]) 16 rfl Try.underlying22 info24 rfl (by decide) (by omega) v267 y266 y269 _ _ _ (fun k_ => some k_ ≠ (u8 : Value).ownBlock ∧ k_ ≠ gb251) (fun _ => False) rfl rfl ?aO ?aR (fun _ _ h => h) (fun _ h => h.elim) ?aF ?aB ?aS ?aL ?_
                                                (case aR => repeat (first | exact (Kd.C_below HR272.out HB.out) | (with_reducible refine Kd.C_alloc ?_ _) | (with_reducible refine Kd.C_drewN ?_ _) | (with_reducible refine Kd.C_drew ?_)))
                                                (case aB => exact (by repeat (first | (with_reducible first | exact HB.out | apply below_alloc | apply pw_below_drewN | apply below_drew1 | refine below_set ?_ GE251.out) | exact HB.out)))
                                                (case aF => exact (fun k_ hk => ⟨Kd.fresh' (Kd.R_lt (by (with_reducible repeat (first | apply Kd.R_alloc | apply Kd.R_drewN | apply Kd.R_drew)); exact HO_8.out)) k_ hk, Kd.freshB (g := gb251) (o := .cells #[.int .i64 a1_0, .int .i64 a1_1] 24 (0, 0)) (by (with_reducible repeat (first | refine blk_drewN ?_ _ | refine blk_drew ?_ | refine blk_alloc ?_ _)); exact BK251.out) k_ hk⟩))
                                                (case aO => exact (by (with_reducible repeat (first | apply Kd.R_alloc | apply Kd.R_drewN | apply Kd.R_drew)); exact Kd.R_mono HO268.out (fun _ hk => ⟨hk.1.2, hk.2⟩)))
                                                (case aS => exact (below_size (by repeat (first | (with_reducible first | exact HB.out | apply below_alloc | apply pw_below_drewN | apply below_drew1 | refine below_set ?_ GE251.out) | exact HB.out))))
                                                (case aL => have := LMc49.out; omega)
                                                intro v274 w79 ho hb hg hat
                                                rw [← Ny273.out] at ho
                                                have n0_ := Aside0.mk (Kd.R_after (ok := (fun k_ => k_ ≠ gb251)) (by (with_reducible repeat (first | apply Kd.R_alloc | apply Kd.R_drewN | apply Kd.R_drew)); exact HO_8.out) hg hat)
                                                have n1_ := Aside0.mk (blk_grown (g := gb251) (o := .cells #[.int .i64 a1_0, .int .i64 a1_1] 24 (0, 0)) (by (with_reducible repeat (first | refine blk_drewN ?_ _ | refine blk_drew ?_ | refine blk_alloc ?_ _)); exact BK251.out) hg (Kd.R_away HO268.out (fun _ hk => hk.2)))
                                                have n2_ := Aside0.mk (hb)
                                                have n3_ := Aside0.mk (ho)
                                                clear HO_8
                                                clear BK251
                                                clear HB
                                                clear HO268
                                                have HO_8 := n0_
                                                have BK251 := n1_
                                                have HB := n2_
                                                have HO275 := n3_
                                                clear n0_ n1_ n2_ n3_
                                                clear ho hb hg hat
                                                refine hK.out _ _ trivial (fun hHeld => ?_)
                                                clear hK K
                                                refine norm_ (a' := ?_) ?_ ?_
                                                rotate_left
                                                · show Act.put _ (some 68) _ = _
                                                  simp only [Act.put, List.setIfInBounds_toArray, List.set_cons_zero, List.set_cons_succ, i64_w, i32_w]
                                                  rfl
                                                refine one_ (i := 8) (N := some 72) #[true, true, true, true, true, true, true, true, true, false] rfl rfl (one_of HT_.out (by kernel_rfl)) (by decide) (fun K hK => ?_)
                                                refine Kd.R_append_rows_step k24 (w0 := w) w.heap.size (by rfl) (.tmp 68) (.tmp 71) 22 24 (.agg #[(.int .i64 0), (.int .i64 0)]) 16 rfl Try.underlying22 info24 rfl (by decide) (by omega) v274 y273 y276 _ _ _ (fun k_ => some k_ ≠ (u8 : Value).ownBlock ∧ k_ ≠ gb251) (fun _ => False) rfl rfl ?aO ?aR (fun _ _ h => h) (fun _ h => h.elim) ?aF ?aB ?aS ?aL ?_
                                                (case aR => repeat (first | exact (Kd.C_below HR279.out HB.out) | (with_reducible refine Kd.C_alloc ?_ _) | (with_reducible refine Kd.C_drewN ?_ _) | (with_reducible refine Kd.C_drew ?_)))
                                                (case aB => exact (by repeat (first | (with_reducible first | exact HB.out | apply below_alloc | apply pw_below_drewN | apply below_drew1 | refine below_set ?_ GE251.out) | exact HB.out)))
                                                (case aF => exact (fun k_ hk => ⟨Kd.fresh' (Kd.R_lt (by (with_reducible repeat (first | apply Kd.R_alloc | apply Kd.R_drewN | apply Kd.R_drew)); exact HO_8.out)) k_ hk, Kd.freshB (g := gb251) (o := .cells #[.int .i64 a1_0, .int .i64 a1_1] 24 (0, 0)) (by (with_reducible repeat (first | refine blk_drewN ?_ _ | refine blk_drew ?_ | refine blk_alloc ?_ _)); exact BK251.out) k_ hk⟩))
                                                (case aO => exact (by (with_reducible repeat (first | apply Kd.R_alloc | apply Kd.R_drewN | apply Kd.R_drew)); exact HO275.out))
                                                (case aS => exact (below_size (by repeat (first | (with_reducible first | exact HB.out | apply below_alloc | apply pw_below_drewN | apply below_drew1 | refine below_set ?_ GE251.out) | exact HB.out))))
                                                (case aL => have := LMc52.out; omega)
                                                intro v281 w80 ho hb hg hat
                                                rw [← Ny280.out] at ho
                                                have n0_ := Aside0.mk (Kd.R_after (ok := (fun k_ => k_ ≠ gb251)) (by (with_reducible repeat (first | apply Kd.R_alloc | apply Kd.R_drewN | apply Kd.R_drew)); exact HO_8.out) hg hat)
                                                have n1_ := Aside0.mk (blk_grown (g := gb251) (o := .cells #[.int .i64 a1_0, .int .i64 a1_1] 24 (0, 0)) (by (with_reducible repeat (first | refine blk_drewN ?_ _ | refine blk_drew ?_ | refine blk_alloc ?_ _)); exact BK251.out) hg (Kd.R_away HO275.out (fun _ hk => hk.2)))
                                                have n2_ := Aside0.mk (hb)
                                                have n3_ := Aside0.mk (ho)
                                                clear HO_8
                                                clear BK251
                                                clear HB
                                                clear HO275
                                                have HO_8 := n0_
                                                have BK251 := n1_
                                                have HB := n2_
                                                have HO282 := n3_
                                                clear n0_ n1_ n2_ n3_
                                                clear ho hb hg hat
                                                refine hK.out _ _ trivial (fun hHeld => ?_)
                                                clear hK K
                                                refine norm_ (a' := ?_) ?_ ?_
                                                rotate_left
                                                · show Act.put _ (some 72) _ = _
                                                  simp only [Act.put, List.setIfInBounds_toArray, List.set_cons_zero, List.set_cons_succ, i64_w, i32_w]
                                                  rfl
                                                refine pure_ (i := 9) (N := some 10) (v := ?_) (a' := ?_) #[true, true, true, true, true, true, true, true, true, true] rfl rfl (any_of HT_.out (by kernel_rfl)) (fun _ _ _ h => h) (Or.inl ⟨by rfl, ?_⟩) ?_ ?_
                                                rotate_left
                                                · intro w'
                                                  go_simp
                                                  with_reducible rfl
                                                rotate_left
                                                · simp only [Act.put, List.setIfInBounds_toArray, List.set_cons_zero, List.set_cons_succ, i64_w, i32_w]
                                                  rfl
                                                refine done_ (done_of HT_.out (by kernel_rfl)) ?_
                                                try go_wp2
                                                have n0_ := Aside0.mk (Kd.R_drew HO_8.out)
                                                have n1_ := Aside0.mk (Kd.R_drew HO282.out)
                                                have n2_ := Aside0.mk (blk_drew BK251.out)
                                                have n3_ := Aside0.mk (below_drew1 HB.out)
                                                clear HO_8
                                                clear HO282
                                                clear BK251
                                                clear HB
                                                have HO_8 := n0_
                                                have HO282 := n1_
                                                have BK251 := n2_
                                                have HB := n3_
                                                clear n0_ n1_ n2_ n3_
                                                have p289 : 0 ≤ ((ji54) : Int) := of_decide_eq_true (by first | (with_reducible assumption) | assumption)
                                                have q289 : (ji54) < (l0.length : Int) := of_decide_eq_true (by first | (with_reducible assumption) | assumption)
                                                obtain ⟨ad289, e289, hx289_0, hx289_1⟩ := at_T24 HR0.out (ji54) p289 q289
                                                have hw289_1 := hx289_1
                                                have hw289_0 := hx289_0
                                                cases e289
                                                replace hx289_0 := (HB.out.cell (World.block_lt_of_cell? w _ hx289_0)).trans hx289_0
                                                replace hx289_1 := (HB.out.cell (World.block_lt_of_cell? w _ hx289_1)).trans hx289_1
                                                replace p289 := eq_true p289
                                                replace q289 := eq_true q289
                                                refine start_ (n := 12) (S := fun w' => w'.cell? (ad289.add (((ji54)).toNat * 2)) = some (.int .i64 ((rd_T24 l0 (ji54)).f0)) ∧ w'.cell? ⟨(ad289.add (((ji54)).toNat * 2)).block, (ad289.add (((ji54)).toNat * 2)).off + 1, none⟩ = some (.int .i64 ((rd_T24 l0 (ji54)).f1))) (ds := []) #[false, false, false, false, false, false, false, false, false, false, false, false] (by kernel_rfl) rfl rfl ⟨((HB.out.cell (World.block_lt_of_cell? w _ hw289_0)).trans hw289_0), ((HB.out.cell (World.block_lt_of_cell? w _ hw289_1)).trans hw289_1)⟩ (fun hHeld => ?_); refine with_tabW limnerlaw03_GeomTurns.tab11 limnerlaw03_GeomTurns.bits11 (fun HT_ HW_ => ?_)
                                                generalize w80.drew = w81 at HO_8 HO282 BK251 HB hx289_0 hx289_1 hHeld ⊢
                                                refine pure_ (i := 1) (N := some 74) (v := ?_) (a' := ?_) #[false, true, false, false, false, false, false, false, false, false, false, false] rfl rfl (any_of HT_.out (by kernel_rfl)) (fun _ _ _ h => h) (Or.inl ⟨by rfl, ?_⟩) ?_ ?_
                                                rotate_left
                                                · intro w'
                                                  go_simp
                                                  with_reducible rfl
                                                rotate_left
                                                · simp only [Act.put, List.setIfInBounds_toArray, List.set_cons_zero, List.set_cons_succ, i64_w, i32_w]
                                                  rfl
                                                refine pure_ (i := 3) (N := some 76) (v := ?_) (a' := ?_) #[false, true, false, true, false, false, false, false, false, false, false, false] rfl rfl (any_of HT_.out (by kernel_rfl)) (fun _ _ _ h => h) (Or.inl ⟨by rfl, ?_⟩) ?_ ?_
                                                rotate_left
                                                · intro w'
                                                  go_simp
                                                  with_reducible rfl
                                                rotate_left
                                                · simp only [Act.put, List.setIfInBounds_toArray, List.set_cons_zero, List.set_cons_succ, i64_w, i32_w]
                                                  rfl
                                                refine pure_ (i := 4) (N := some 77) (v := ?_) (a' := ?_) #[false, true, false, true, true, false, false, false, false, false, false, false] rfl rfl (any_of HT_.out (by kernel_rfl)) (fun _ _ _ h => h) (Or.inl ⟨by rfl, ?_⟩) ?_ ?_
                                                rotate_left
                                                · intro w'
                                                  go_simp
                                                  with_reducible rfl
                                                rotate_left
                                                · simp only [Act.put, List.setIfInBounds_toArray, List.set_cons_zero, List.set_cons_succ, i64_w, i32_w]
                                                  rfl
                                                refine pure_ (i := 5) (N := some 78) (v := ?_) (a' := ?_) #[false, true, false, true, true, true, false, false, false, false, false, false] rfl rfl (any_of HT_.out (by kernel_rfl)) (fun _ _ _ h => h) (Or.inl ⟨by rfl, ?_⟩) ?_ ?_
                                                rotate_left
                                                · intro w'
                                                  go_simp
                                                  with_reducible rfl
                                                rotate_left
                                                · simp only [Act.put, List.setIfInBounds_toArray, List.set_cons_zero, List.set_cons_succ, i64_w, i32_w]
                                                  rfl
                                                refine pure_ (i := 6) (N := some 79) (v := ?_) (a' := ?_) #[false, true, false, true, true, true, true, false, false, false, false, false] rfl rfl (any_of HT_.out (by kernel_rfl)) (fun _ _ _ h => h) (Or.inl ⟨by rfl, ?_⟩) ?_ ?_
                                                rotate_left
                                                · intro w'
                                                  go_simp
                                                  with_reducible rfl
                                                rotate_left
                                                · simp only [Act.put, List.setIfInBounds_toArray, List.set_cons_zero, List.set_cons_succ, i64_w, i32_w]
                                                  rfl
                                                refine pure_ (i := 7) (N := some 80) (v := ?_) (a' := ?_) #[false, true, false, true, true, true, true, true, false, false, false, false] rfl rfl (any_of HT_.out (by kernel_rfl)) (fun _ _ _ h => h) (Or.inl ⟨by rfl, ?_⟩) ?_ ?_
                                                rotate_left
                                                · intro w'
                                                  go_simp
                                                  with_reducible rfl
                                                rotate_left
                                                · simp only [Act.put, List.setIfInBounds_toArray, List.set_cons_zero, List.set_cons_succ, i64_w, i32_w]
                                                  rfl
                                                refine take_ (i := 8) (N := some 81) (v := ?_) (a' := ?_) #[false, true, false, true, true, true, true, true, true, false, false, false] rfl rfl (take_ofW HT_.out HW_.out (by kernel_rfl)) (fun _ _ _ h => h) (Or.inl ⟨by rfl, ?_⟩) hHeld ?_ ?_
                                                rotate_left
                                                · rintro w' ⟨s0, s1⟩
                                                  go_simp
                                                  with_reducible rfl
                                                rotate_left
                                                · simp only [Act.put, List.setIfInBounds_toArray, List.set_cons_zero, List.set_cons_succ, i64_w, i32_w]
                                                  rfl
                                                refine join_ (σ := Value × Value × Value) 2 #[true, true, true, true, true, true, true, true, true, true, false, false] (fun s_ => [(73, s_.1), (75, s_.2.1), (82, s_.2.2)]) (fun s_ w' => (w'.cell? (ad289.add (((ji54)).toNat * 2)) = some (.int .i64 ((rd_T24 l0 (ji54)).f0)) ∧ w'.cell? ⟨(ad289.add (((ji54)).toNat * 2)).block, (ad289.add (((ji54)).toNat * 2)).off + 1, none⟩ = some (.int .i64 ((rd_T24 l0 (ji54)).f1))) ∧ (Kd.R k24 24 w' w.heap.size (fun k_ => some k_ ≠ (s_.2.1 : Value).ownBlock ∧ some k_ ≠ (s_.2.2 : Value).ownBlock ∧ some k_ ≠ (u8 : Value).ownBlock ∧ k_ ≠ gb251) v281 y280) ∧ (Kd.R k24 24 w' w.heap.size (fun k_ => some k_ ≠ (v281 : Value).ownBlock ∧ some k_ ≠ (s_.2.2 : Value).ownBlock ∧ some k_ ≠ (u8 : Value).ownBlock ∧ k_ ≠ gb251) s_.2.1 y286) ∧ (Kd.R k24 24 w' w.heap.size (fun k_ => some k_ ≠ (v281 : Value).ownBlock ∧ some k_ ≠ (s_.2.1 : Value).ownBlock ∧ some k_ ≠ (u8 : Value).ownBlock ∧ k_ ≠ gb251) s_.2.2 y290) ∧ (Kd.R k24 24 w' w.heap.size (fun k_ => some k_ ≠ (v281 : Value).ownBlock ∧ some k_ ≠ (s_.2.1 : Value).ownBlock ∧ some k_ ≠ (s_.2.2 : Value).ownBlock ∧ k_ ≠ gb251) u8 x8_2) ∧ (w'.heap[gb251]? = some (.cells #[.int .i64 a1_0, .int .i64 a1_1] 24 (0, 0))) ∧ (Below w.heap.size w w')) ?_ ?_
                                                rotate_left
                                                · intro hCont
                                                  refine two_ (i := 0) (j := 9) (Ni := some 73) (Nj := some 82) #[true, true, false, true, true, true, true, true, true, false, false, false] #[false, true, false, true, true, true, true, true, true, true, false, false] rfl rfl rfl rfl (two_of HT_.out (by kernel_rfl)) (by decide) (by decide) (fun K hK => ?_) (fun K hK => ?_)
                                                  · skip
                                                    refine Kd.R_lit_step k24 _ 24 ?hg (N := 73) ?hd (xs := ([] : List (S24))) (inner := []) (ok := fun _ => True) (okp := fun _ => True) ?hr ?hp (fun _ hk => hk) trivial (Below.refl _ _) (Nat.le_refl _) (by simp) ?_; (case hd => rfl); (case hg => rfl); (case hr => first | (go_simp; done) | (go_simp; rfl)); (case hp => exact (Reps.none _ _))
                                                    intro v284 w82 ho83 hb hg_ hnew_
                                                    clear hg_ hnew_
                                                    (first | rw [← Ny283.out] at ho83 | (simp only [Int.reduceToNat] at ho83; rw [← Ny283.out] at ho83))
                                                    have n0_ := Aside0.mk (Kd.R_elder' (by (with_reducible repeat (first | apply Kd.R_alloc | apply Kd.R_drewN | apply Kd.R_drew)); exact HO_8.out) (Kd.R_base ho83) hb)
                                                    have n1_ := Aside0.mk (Kd.R_elder' (by (with_reducible repeat (first | apply Kd.R_alloc | apply Kd.R_drewN | apply Kd.R_drew)); exact HO282.out) (Kd.R_base ho83) hb)
                                                    have n2_ := Aside0.mk (Kd.R_lower (Kd.R_newB (Kd.R_new' (Kd.R_new' ho83 (Kd.R_lt (by (with_reducible repeat (first | apply Kd.R_alloc | apply Kd.R_drewN | apply Kd.R_drew)); exact HO_8.out))) (Kd.R_lt (by (with_reducible repeat (first | apply Kd.R_alloc | apply Kd.R_drewN | apply Kd.R_drew)); exact HO282.out))) (g := gb251) (o := .cells #[.int .i64 a1_0, .int .i64 a1_1] 24 (0, 0)) (by (with_reducible repeat (first | refine blk_drewN ?_ _ | refine blk_drew ?_ | refine blk_alloc ?_ _)); exact BK251.out)) (below_size (by repeat (first | (with_reducible first | exact HB.out | apply below_alloc | apply pw_below_drewN | apply below_drew1 | refine below_set ?_ GE251.out) | exact HB.out))))
                                                    have n3_ := Aside0.mk (blk_below (g := gb251) (o := .cells #[.int .i64 a1_0, .int .i64 a1_1] 24 (0, 0)) (by (with_reducible repeat (first | refine blk_drewN ?_ _ | refine blk_drew ?_ | refine blk_alloc ?_ _)); exact BK251.out) hb)
                                                    have n4_ := Aside0.mk (below_step (by repeat (first | (with_reducible first | exact HB.out | apply below_alloc | apply pw_below_drewN | apply below_drew1 | refine below_set ?_ GE251.out) | exact HB.out)) hb)
                                                    clear HO_8
                                                    clear HO282
                                                    clear BK251
                                                    clear HB
                                                    have HO_8 := n0_
                                                    have HO282 := n1_
                                                    have HO285 := n2_
                                                    have BK251 := n3_
                                                    have HB := n4_
                                                    clear n0_ n1_ n2_ n3_ n4_
                                                    clear hb ho83
                                                    refine hK.out _ _ ⟨((HB.out.cell (World.block_lt_of_cell? w _ hw289_0)).trans hw289_0), ((HB.out.cell (World.block_lt_of_cell? w _ hw289_1)).trans hw289_1)⟩ (fun hHeld => ?_)
                                                    clear hK K
                                                    refine norm_ (a' := ?_) ?_ ?_
                                                    rotate_left
                                                    · show Act.put _ (some 73) _ = _
                                                      simp only [Act.put, List.setIfInBounds_toArray, List.set_cons_zero, List.set_cons_succ, i64_w, i32_w]
                                                      rfl
                                                    refine two_ (i := 2) (j := 9) (Ni := some 75) (Nj := some 82) #[true, true, true, true, true, true, true, true, true, false, false, false] #[true, true, false, true, true, true, true, true, true, true, false, false] rfl rfl rfl rfl (two_of HT_.out (by kernel_rfl)) (by decide) (by decide) (fun K hK => ?_) (fun K hK => ?_)
                                                    · skip
                                                      refine Kd.R_append_rows_step k24 (w0 := w) w.heap.size (by rfl) (.tmp 73) (.tmp 74) 22 24 (.agg #[(.int .i64 0), (.int .i64 0)]) 16 rfl Try.underlying22 info24 rfl (by decide) (by omega) v284 y283 l0 _ _ _ (fun k_ => some k_ ≠ (u8 : Value).ownBlock ∧ some k_ ≠ (v281 : Value).ownBlock ∧ k_ ≠ gb251) (fun _ => False) rfl rfl ?aO ?aR (fun _ _ h => h) (fun _ h => h.elim) ?aF ?aB ?aS ?aL ?_
                                                      (case aR => repeat (first | exact (Kd.C_below HR0.out HB.out) | (with_reducible refine Kd.C_alloc ?_ _) | (with_reducible refine Kd.C_drewN ?_ _) | (with_reducible refine Kd.C_drew ?_)))
                                                      (case aB => exact (by repeat (first | (with_reducible first | exact HB.out | apply below_alloc | apply pw_below_drewN | apply below_drew1 | refine below_set ?_ GE251.out) | exact HB.out)))
                                                      (case aF => exact (fun k_ hk => ⟨Kd.fresh' (Kd.R_lt (by (with_reducible repeat (first | apply Kd.R_alloc | apply Kd.R_drewN | apply Kd.R_drew)); exact HO_8.out)) k_ hk, Kd.fresh' (Kd.R_lt (by (with_reducible repeat (first | apply Kd.R_alloc | apply Kd.R_drewN | apply Kd.R_drew)); exact HO282.out)) k_ hk, Kd.freshB (g := gb251) (o := .cells #[.int .i64 a1_0, .int .i64 a1_1] 24 (0, 0)) (by (with_reducible repeat (first | refine blk_drewN ?_ _ | refine blk_drew ?_ | refine blk_alloc ?_ _)); exact BK251.out) k_ hk⟩))
                                                      (case aO => exact (by (with_reducible repeat (first | apply Kd.R_alloc | apply Kd.R_drewN | apply Kd.R_drew)); exact Kd.R_mono HO285.out (fun _ hk => ⟨hk.1.1.2, ⟨hk.1.2, hk.2⟩⟩)))
                                                      (case aS => exact (below_size (by repeat (first | (with_reducible first | exact HB.out | apply below_alloc | apply pw_below_drewN | apply below_drew1 | refine below_set ?_ GE251.out) | exact HB.out))))
                                                      (case aL => have := LMc53.out; omega)
                                                      intro v287 w84 ho hb hg hat
                                                      rw [← Ny286.out] at ho
                                                      have n0_ := Aside0.mk (Kd.R_after (ok := (fun k_ => some k_ ≠ (v281 : Value).ownBlock ∧ k_ ≠ gb251)) (by (with_reducible repeat (first | apply Kd.R_alloc | apply Kd.R_drewN | apply Kd.R_drew)); exact Kd.R_mono HO_8.out (fun _ hk => ⟨⟨hk.1.2, hk.1.1⟩, hk.2⟩)) hg hat)
                                                      have n1_ := Aside0.mk (blk_grown (g := gb251) (o := .cells #[.int .i64 a1_0, .int .i64 a1_1] 24 (0, 0)) (by (with_reducible repeat (first | refine blk_drewN ?_ _ | refine blk_drew ?_ | refine blk_alloc ?_ _)); exact BK251.out) hg (Kd.R_away HO285.out (fun _ hk => hk.2)))
                                                      have n2_ := Aside0.mk (Kd.R_after (ok := (fun k_ => some k_ ≠ (u8 : Value).ownBlock ∧ k_ ≠ gb251)) (by (with_reducible repeat (first | apply Kd.R_alloc | apply Kd.R_drewN | apply Kd.R_drew)); exact HO282.out) hg hat)
                                                      have n3_ := Aside0.mk (hb)
                                                      have n4_ := Aside0.mk (ho)
                                                      clear HO_8
                                                      clear BK251
                                                      clear HO282
                                                      clear HB
                                                      clear HO285
                                                      have HO_8 := n0_
                                                      have BK251 := n1_
                                                      have HO282 := n2_
                                                      have HB := n3_
                                                      have HO288 := n4_
                                                      clear n0_ n1_ n2_ n3_ n4_
                                                      clear ho hb hg hat
                                                      refine hK.out _ _ ⟨((HB.out.cell (World.block_lt_of_cell? w _ hw289_0)).trans hw289_0), ((HB.out.cell (World.block_lt_of_cell? w _ hw289_1)).trans hw289_1)⟩ (fun hHeld => ?_)
                                                      clear hK K
                                                      refine norm_ (a' := ?_) ?_ ?_
                                                      rotate_left
                                                      · show Act.put _ (some 75) _ = _
                                                        simp only [Act.put, List.setIfInBounds_toArray, List.set_cons_zero, List.set_cons_succ, i64_w, i32_w]
                                                        rfl
                                                      refine one_ (i := 9) (N := some 82) #[true, true, true, true, true, true, true, true, true, true, false, false] rfl rfl (one_of HT_.out (by kernel_rfl)) (by decide) (fun K hK => ?_)
                                                      refine Kd.R_lit_step k24 _ 24 ?hg (N := 82) ?hd (xs := ([(⟨(rd_T24 l0 (ji54)).f0, (rd_T24 l0 (ji54)).f1⟩ : S24)] : List (S24))) (inner := [.int .i64 ((rd_T24 l0 (ji54)).f0), .int .i64 ((rd_T24 l0 (ji54)).f1)]) (ok := fun _ => True) (okp := fun _ => True) ?hr ?hp (fun _ hk => hk) trivial (Below.refl _ _) (Nat.le_refl _) (by simp) ?_; (case hd => rfl); (case hg => rfl); (case hr => first | (go_simp; done) | (go_simp; rfl)); (case hp => exact (Reps.c2 (show Kd.M k24 _ _ _ (⟨(rd_T24 l0 (ji54)).f0, (rd_T24 l0 (ji54)).f1⟩ : S24) [.int .i64 ((rd_T24 l0 (ji54)).f0), .int .i64 ((rd_T24 l0 (ji54)).f1)] from (k24_mkM _ _ _ (⟨(rd_T24 l0 (ji54)).f0, (rd_T24 l0 (ji54)).f1⟩ : S24) )) (Reps.none _ _)))
                                                      intro v291 w85 ho86 hb hg_ hnew_
                                                      clear hg_ hnew_
                                                      (first | rw [← Ny290.out] at ho86 | (simp only [Int.reduceToNat] at ho86; rw [← Ny290.out] at ho86))
                                                      have n0_ := Aside0.mk (Kd.R_elder' (by (with_reducible repeat (first | apply Kd.R_alloc | apply Kd.R_drewN | apply Kd.R_drew)); exact HO_8.out) (Kd.R_base ho86) hb)
                                                      have n1_ := Aside0.mk (Kd.R_elder' (by (with_reducible repeat (first | apply Kd.R_alloc | apply Kd.R_drewN | apply Kd.R_drew)); exact HO282.out) (Kd.R_base ho86) hb)
                                                      have n2_ := Aside0.mk (Kd.R_elder' (by (with_reducible repeat (first | apply Kd.R_alloc | apply Kd.R_drewN | apply Kd.R_drew)); exact HO288.out) (Kd.R_base ho86) hb)
                                                      have n3_ := Aside0.mk (Kd.R_lower (Kd.R_newB (Kd.R_new' (Kd.R_new' (Kd.R_new' ho86 (Kd.R_lt (by (with_reducible repeat (first | apply Kd.R_alloc | apply Kd.R_drewN | apply Kd.R_drew)); exact HO_8.out))) (Kd.R_lt (by (with_reducible repeat (first | apply Kd.R_alloc | apply Kd.R_drewN | apply Kd.R_drew)); exact HO282.out))) (Kd.R_lt (by (with_reducible repeat (first | apply Kd.R_alloc | apply Kd.R_drewN | apply Kd.R_drew)); exact HO288.out))) (g := gb251) (o := .cells #[.int .i64 a1_0, .int .i64 a1_1] 24 (0, 0)) (by (with_reducible repeat (first | refine blk_drewN ?_ _ | refine blk_drew ?_ | refine blk_alloc ?_ _)); exact BK251.out)) (below_size (by repeat (first | (with_reducible first | exact HB.out | apply below_alloc | apply pw_below_drewN | apply below_drew1 | refine below_set ?_ GE251.out) | exact HB.out))))
                                                      have n4_ := Aside0.mk (blk_below (g := gb251) (o := .cells #[.int .i64 a1_0, .int .i64 a1_1] 24 (0, 0)) (by (with_reducible repeat (first | refine blk_drewN ?_ _ | refine blk_drew ?_ | refine blk_alloc ?_ _)); exact BK251.out) hb)
                                                      have n5_ := Aside0.mk (below_step (by repeat (first | (with_reducible first | exact HB.out | apply below_alloc | apply pw_below_drewN | apply below_drew1 | refine below_set ?_ GE251.out) | exact HB.out)) hb)
                                                      clear HO_8
                                                      clear HO282
                                                      clear HO288
                                                      clear BK251
                                                      clear HB
                                                      have HO_8 := n0_
                                                      have HO282 := n1_
                                                      have HO288 := n2_
                                                      have HO292 := n3_
                                                      have BK251 := n4_
                                                      have HB := n5_
                                                      clear n0_ n1_ n2_ n3_ n4_ n5_
                                                      clear hb ho86
                                                      refine hK.out _ _ ⟨((HB.out.cell (World.block_lt_of_cell? w _ hw289_0)).trans hw289_0), ((HB.out.cell (World.block_lt_of_cell? w _ hw289_1)).trans hw289_1)⟩ (fun hHeld => ?_)
                                                      clear hK K
                                                      refine norm_ (a' := ?_) ?_ ?_
                                                      rotate_left
                                                      · show Act.put _ (some 82) _ = _
                                                        simp only [Act.put, List.setIfInBounds_toArray, List.set_cons_zero, List.set_cons_succ, i64_w, i32_w]
                                                        rfl
                                                      exact norm_ (by simp only [putAll, Act.put, List.setIfInBounds_toArray, List.set_cons_zero, List.set_cons_succ]) (hCont (v284, v287, v291) _ ⟨hHeld, (by (with_reducible repeat (first | apply Kd.R_alloc | apply Kd.R_drewN | apply Kd.R_drew)); exact Kd.R_mono HO282.out (fun _ hk => ⟨hk.1.2, ⟨hk.2, ⟨hk.1.1.1, hk.1.1.2⟩⟩⟩)), (by (with_reducible repeat (first | apply Kd.R_alloc | apply Kd.R_drewN | apply Kd.R_drew)); exact Kd.R_mono HO288.out (fun _ hk => ⟨hk.1.2.1, ⟨hk.2, ⟨hk.1.1, hk.1.2.2⟩⟩⟩)), (by (with_reducible repeat (first | apply Kd.R_alloc | apply Kd.R_drewN | apply Kd.R_drew)); exact Kd.R_mono HO292.out (fun _ hk => ⟨hk.1.1.2, ⟨hk.1.2, ⟨hk.1.1.1.2, hk.2⟩⟩⟩)), (by (with_reducible repeat (first | apply Kd.R_alloc | apply Kd.R_drewN | apply Kd.R_drew)); exact Kd.R_mono HO_8.out (fun _ hk => ⟨hk.1.1.1, ⟨hk.1.2, ⟨hk.2, hk.1.1.2⟩⟩⟩)), (by (with_reducible repeat (first | refine blk_drewN ?_ _ | refine blk_drew ?_ | refine blk_alloc ?_ _)); exact BK251.out), (by repeat (first | (with_reducible first | exact HB.out | apply below_alloc | apply pw_below_drewN | apply below_drew1 | refine below_set ?_ GE251.out) | exact HB.out))⟩)
                                                    · skip
                                                      refine Kd.R_lit_step k24 _ 24 ?hg (N := 82) ?hd (xs := ([(⟨(rd_T24 l0 (ji54)).f0, (rd_T24 l0 (ji54)).f1⟩ : S24)] : List (S24))) (inner := [.int .i64 ((rd_T24 l0 (ji54)).f0), .int .i64 ((rd_T24 l0 (ji54)).f1)]) (ok := fun _ => True) (okp := fun _ => True) ?hr ?hp (fun _ hk => hk) trivial (Below.refl _ _) (Nat.le_refl _) (by simp) ?_; (case hd => rfl); (case hg => rfl); (case hr => first | (go_simp; done) | (go_simp; rfl)); (case hp => exact (Reps.c2 (show Kd.M k24 _ _ _ (⟨(rd_T24 l0 (ji54)).f0, (rd_T24 l0 (ji54)).f1⟩ : S24) [.int .i64 ((rd_T24 l0 (ji54)).f0), .int .i64 ((rd_T24 l0 (ji54)).f1)] from (k24_mkM _ _ _ (⟨(rd_T24 l0 (ji54)).f0, (rd_T24 l0 (ji54)).f1⟩ : S24) )) (Reps.none _ _)))
                                                      intro v291 w84 ho85 hb hg_ hnew_
                                                      clear hg_ hnew_
                                                      (first | rw [← Ny290.out] at ho85 | (simp only [Int.reduceToNat] at ho85; rw [← Ny290.out] at ho85))
                                                      have n0_ := Aside0.mk (Kd.R_elder' (by (with_reducible repeat (first | apply Kd.R_alloc | apply Kd.R_drewN | apply Kd.R_drew)); exact HO_8.out) (Kd.R_base ho85) hb)
                                                      have n1_ := Aside0.mk (Kd.R_elder' (by (with_reducible repeat (first | apply Kd.R_alloc | apply Kd.R_drewN | apply Kd.R_drew)); exact HO282.out) (Kd.R_base ho85) hb)
                                                      have n2_ := Aside0.mk (Kd.R_elder' (by (with_reducible repeat (first | apply Kd.R_alloc | apply Kd.R_drewN | apply Kd.R_drew)); exact HO285.out) (Kd.R_base ho85) hb)
                                                      have n3_ := Aside0.mk (Kd.R_lower (Kd.R_newB (Kd.R_new' (Kd.R_new' (Kd.R_new' ho85 (Kd.R_lt (by (with_reducible repeat (first | apply Kd.R_alloc | apply Kd.R_drewN | apply Kd.R_drew)); exact HO_8.out))) (Kd.R_lt (by (with_reducible repeat (first | apply Kd.R_alloc | apply Kd.R_drewN | apply Kd.R_drew)); exact HO282.out))) (Kd.R_lt (by (with_reducible repeat (first | apply Kd.R_alloc | apply Kd.R_drewN | apply Kd.R_drew)); exact HO285.out))) (g := gb251) (o := .cells #[.int .i64 a1_0, .int .i64 a1_1] 24 (0, 0)) (by (with_reducible repeat (first | refine blk_drewN ?_ _ | refine blk_drew ?_ | refine blk_alloc ?_ _)); exact BK251.out)) (below_size (by repeat (first | (with_reducible first | exact HB.out | apply below_alloc | apply pw_below_drewN | apply below_drew1 | refine below_set ?_ GE251.out) | exact HB.out))))
                                                      have n4_ := Aside0.mk (blk_below (g := gb251) (o := .cells #[.int .i64 a1_0, .int .i64 a1_1] 24 (0, 0)) (by (with_reducible repeat (first | refine blk_drewN ?_ _ | refine blk_drew ?_ | refine blk_alloc ?_ _)); exact BK251.out) hb)
                                                      have n5_ := Aside0.mk (below_step (by repeat (first | (with_reducible first | exact HB.out | apply below_alloc | apply pw_below_drewN | apply below_drew1 | refine below_set ?_ GE251.out) | exact HB.out)) hb)
                                                      clear HO_8
                                                      clear HO282
                                                      clear HO285
                                                      clear BK251
                                                      clear HB
                                                      have HO_8 := n0_
                                                      have HO282 := n1_
                                                      have HO285 := n2_
                                                      have HO292 := n3_
                                                      have BK251 := n4_
                                                      have HB := n5_
                                                      clear n0_ n1_ n2_ n3_ n4_ n5_
                                                      clear hb ho85
                                                      refine hK.out _ _ ⟨((HB.out.cell (World.block_lt_of_cell? w _ hw289_0)).trans hw289_0), ((HB.out.cell (World.block_lt_of_cell? w _ hw289_1)).trans hw289_1)⟩ (fun hHeld => ?_)
                                                      clear hK K
                                                      refine norm_ (a' := ?_) ?_ ?_
                                                      rotate_left
                                                      · show Act.put _ (some 82) _ = _
                                                        simp only [Act.put, List.setIfInBounds_toArray, List.set_cons_zero, List.set_cons_succ, i64_w, i32_w]
                                                        rfl
                                                      refine one_ (i := 2) (N := some 75) #[true, true, true, true, true, true, true, true, true, true, false, false] rfl rfl (one_of HT_.out (by kernel_rfl)) (by decide) (fun K hK => ?_)
                                                      refine Kd.R_append_rows_step k24 (w0 := w) w.heap.size (by rfl) (.tmp 73) (.tmp 74) 22 24 (.agg #[(.int .i64 0), (.int .i64 0)]) 16 rfl Try.underlying22 info24 rfl (by decide) (by omega) v284 y283 l0 _ _ _ (fun k_ => some k_ ≠ (u8 : Value).ownBlock ∧ some k_ ≠ (v281 : Value).ownBlock ∧ some k_ ≠ (v291 : Value).ownBlock ∧ k_ ≠ gb251) (fun _ => False) rfl rfl ?aO ?aR (fun _ _ h => h) (fun _ h => h.elim) ?aF ?aB ?aS ?aL ?_
                                                      (case aR => repeat (first | exact (Kd.C_below HR0.out HB.out) | (with_reducible refine Kd.C_alloc ?_ _) | (with_reducible refine Kd.C_drewN ?_ _) | (with_reducible refine Kd.C_drew ?_)))
                                                      (case aB => exact (by repeat (first | (with_reducible first | exact HB.out | apply below_alloc | apply pw_below_drewN | apply below_drew1 | refine below_set ?_ GE251.out) | exact HB.out)))
                                                      (case aF => exact (fun k_ hk => ⟨Kd.fresh' (Kd.R_lt (by (with_reducible repeat (first | apply Kd.R_alloc | apply Kd.R_drewN | apply Kd.R_drew)); exact HO_8.out)) k_ hk, Kd.fresh' (Kd.R_lt (by (with_reducible repeat (first | apply Kd.R_alloc | apply Kd.R_drewN | apply Kd.R_drew)); exact HO282.out)) k_ hk, Kd.fresh' (Kd.R_lt (by (with_reducible repeat (first | apply Kd.R_alloc | apply Kd.R_drewN | apply Kd.R_drew)); exact HO292.out)) k_ hk, Kd.freshB (g := gb251) (o := .cells #[.int .i64 a1_0, .int .i64 a1_1] 24 (0, 0)) (by (with_reducible repeat (first | refine blk_drewN ?_ _ | refine blk_drew ?_ | refine blk_alloc ?_ _)); exact BK251.out) k_ hk⟩))
                                                      (case aO => exact (by (with_reducible repeat (first | apply Kd.R_alloc | apply Kd.R_drewN | apply Kd.R_drew)); exact Kd.R_mono HO285.out (fun _ hk => ⟨hk.1.1.1.2, ⟨hk.1.1.2, ⟨hk.2, hk.1.2⟩⟩⟩)))
                                                      (case aS => exact (below_size (by repeat (first | (with_reducible first | exact HB.out | apply below_alloc | apply pw_below_drewN | apply below_drew1 | refine below_set ?_ GE251.out) | exact HB.out))))
                                                      (case aL => have := LMc53.out; omega)
                                                      intro v287 w86 ho hb hg hat
                                                      rw [← Ny286.out] at ho
                                                      have n0_ := Aside0.mk (Kd.R_after (ok := (fun k_ => some k_ ≠ (v281 : Value).ownBlock ∧ some k_ ≠ (v291 : Value).ownBlock ∧ k_ ≠ gb251)) (by (with_reducible repeat (first | apply Kd.R_alloc | apply Kd.R_drewN | apply Kd.R_drew)); exact Kd.R_mono HO_8.out (fun _ hk => ⟨⟨hk.1.1.2, ⟨hk.2, hk.1.1.1⟩⟩, hk.1.2⟩)) hg hat)
                                                      have n1_ := Aside0.mk (blk_grown (g := gb251) (o := .cells #[.int .i64 a1_0, .int .i64 a1_1] 24 (0, 0)) (by (with_reducible repeat (first | refine blk_drewN ?_ _ | refine blk_drew ?_ | refine blk_alloc ?_ _)); exact BK251.out) hg (Kd.R_away HO285.out (fun _ hk => hk.1.2)))
                                                      have n2_ := Aside0.mk (Kd.R_after (ok := (fun k_ => some k_ ≠ (u8 : Value).ownBlock ∧ some k_ ≠ (v291 : Value).ownBlock ∧ k_ ≠ gb251)) (by (with_reducible repeat (first | apply Kd.R_alloc | apply Kd.R_drewN | apply Kd.R_drew)); exact Kd.R_mono HO282.out (fun _ hk => ⟨⟨hk.1.1.1, ⟨hk.2, hk.1.1.2⟩⟩, hk.1.2⟩)) hg hat)
                                                      have n3_ := Aside0.mk (Kd.R_after (ok := (fun k_ => some k_ ≠ (u8 : Value).ownBlock ∧ some k_ ≠ (v281 : Value).ownBlock ∧ k_ ≠ gb251)) (by (with_reducible repeat (first | apply Kd.R_alloc | apply Kd.R_drewN | apply Kd.R_drew)); exact Kd.R_mono HO292.out (fun _ hk => ⟨⟨hk.1.1.1.2, ⟨hk.1.1.2, hk.2⟩⟩, hk.1.2⟩)) hg hat)
                                                      have n4_ := Aside0.mk (hb)
                                                      have n5_ := Aside0.mk (ho)
                                                      clear HO_8
                                                      clear BK251
                                                      clear HO282
                                                      clear HO292
                                                      clear HB
                                                      clear HO285
                                                      have HO_8 := n0_
                                                      have BK251 := n1_
                                                      have HO282 := n2_
                                                      have HO292 := n3_
                                                      have HB := n4_
                                                      have HO288 := n5_
                                                      clear n0_ n1_ n2_ n3_ n4_ n5_
                                                      clear ho hb hg hat
                                                      refine hK.out _ _ ⟨((HB.out.cell (World.block_lt_of_cell? w _ hw289_0)).trans hw289_0), ((HB.out.cell (World.block_lt_of_cell? w _ hw289_1)).trans hw289_1)⟩ (fun hHeld => ?_)
                                                      clear hK K
                                                      refine norm_ (a' := ?_) ?_ ?_
                                                      rotate_left
                                                      · show Act.put _ (some 75) _ = _
                                                        simp only [Act.put, List.setIfInBounds_toArray, List.set_cons_zero, List.set_cons_succ, i64_w, i32_w]
                                                        rfl
                                                      exact norm_ (by simp only [putAll, Act.put, List.setIfInBounds_toArray, List.set_cons_zero, List.set_cons_succ]) (hCont (v284, v287, v291) _ ⟨hHeld, (by (with_reducible repeat (first | apply Kd.R_alloc | apply Kd.R_drewN | apply Kd.R_drew)); exact Kd.R_mono HO282.out (fun _ hk => ⟨hk.2, ⟨hk.1.2.1, ⟨hk.1.1, hk.1.2.2⟩⟩⟩)), (by (with_reducible repeat (first | apply Kd.R_alloc | apply Kd.R_drewN | apply Kd.R_drew)); exact Kd.R_mono HO288.out (fun _ hk => ⟨hk.2.1, ⟨hk.2.2.1, ⟨hk.1, hk.2.2.2⟩⟩⟩)), (by (with_reducible repeat (first | apply Kd.R_alloc | apply Kd.R_drewN | apply Kd.R_drew)); exact Kd.R_mono HO292.out (fun _ hk => ⟨hk.1.2.1, ⟨hk.2, ⟨hk.1.1, hk.1.2.2⟩⟩⟩)), (by (with_reducible repeat (first | apply Kd.R_alloc | apply Kd.R_drewN | apply Kd.R_drew)); exact Kd.R_mono HO_8.out (fun _ hk => ⟨hk.1.1, ⟨hk.2, ⟨hk.1.2.1, hk.1.2.2⟩⟩⟩)), (by (with_reducible repeat (first | refine blk_drewN ?_ _ | refine blk_drew ?_ | refine blk_alloc ?_ _)); exact BK251.out), (by repeat (first | (with_reducible first | exact HB.out | apply below_alloc | apply pw_below_drewN | apply below_drew1 | refine below_set ?_ GE251.out) | exact HB.out))⟩)
                                                  · skip
                                                    refine Kd.R_lit_step k24 _ 24 ?hg (N := 82) ?hd (xs := ([(⟨(rd_T24 l0 (ji54)).f0, (rd_T24 l0 (ji54)).f1⟩ : S24)] : List (S24))) (inner := [.int .i64 ((rd_T24 l0 (ji54)).f0), .int .i64 ((rd_T24 l0 (ji54)).f1)]) (ok := fun _ => True) (okp := fun _ => True) ?hr ?hp (fun _ hk => hk) trivial (Below.refl _ _) (Nat.le_refl _) (by simp) ?_; (case hd => rfl); (case hg => rfl); (case hr => first | (go_simp; done) | (go_simp; rfl)); (case hp => exact (Reps.c2 (show Kd.M k24 _ _ _ (⟨(rd_T24 l0 (ji54)).f0, (rd_T24 l0 (ji54)).f1⟩ : S24) [.int .i64 ((rd_T24 l0 (ji54)).f0), .int .i64 ((rd_T24 l0 (ji54)).f1)] from (k24_mkM _ _ _ (⟨(rd_T24 l0 (ji54)).f0, (rd_T24 l0 (ji54)).f1⟩ : S24) )) (Reps.none _ _)))
                                                    intro v291 w82 ho83 hb hg_ hnew_
                                                    clear hg_ hnew_
                                                    (first | rw [← Ny290.out] at ho83 | (simp only [Int.reduceToNat] at ho83; rw [← Ny290.out] at ho83))
                                                    have n0_ := Aside0.mk (Kd.R_elder' (by (with_reducible repeat (first | apply Kd.R_alloc | apply Kd.R_drewN | apply Kd.R_drew)); exact HO_8.out) (Kd.R_base ho83) hb)
                                                    have n1_ := Aside0.mk (Kd.R_elder' (by (with_reducible repeat (first | apply Kd.R_alloc | apply Kd.R_drewN | apply Kd.R_drew)); exact HO282.out) (Kd.R_base ho83) hb)
                                                    have n2_ := Aside0.mk (Kd.R_lower (Kd.R_newB (Kd.R_new' (Kd.R_new' ho83 (Kd.R_lt (by (with_reducible repeat (first | apply Kd.R_alloc | apply Kd.R_drewN | apply Kd.R_drew)); exact HO_8.out))) (Kd.R_lt (by (with_reducible repeat (first | apply Kd.R_alloc | apply Kd.R_drewN | apply Kd.R_drew)); exact HO282.out))) (g := gb251) (o := .cells #[.int .i64 a1_0, .int .i64 a1_1] 24 (0, 0)) (by (with_reducible repeat (first | refine blk_drewN ?_ _ | refine blk_drew ?_ | refine blk_alloc ?_ _)); exact BK251.out)) (below_size (by repeat (first | (with_reducible first | exact HB.out | apply below_alloc | apply pw_below_drewN | apply below_drew1 | refine below_set ?_ GE251.out) | exact HB.out))))
                                                    have n3_ := Aside0.mk (blk_below (g := gb251) (o := .cells #[.int .i64 a1_0, .int .i64 a1_1] 24 (0, 0)) (by (with_reducible repeat (first | refine blk_drewN ?_ _ | refine blk_drew ?_ | refine blk_alloc ?_ _)); exact BK251.out) hb)
                                                    have n4_ := Aside0.mk (below_step (by repeat (first | (with_reducible first | exact HB.out | apply below_alloc | apply pw_below_drewN | apply below_drew1 | refine below_set ?_ GE251.out) | exact HB.out)) hb)
                                                    clear HO_8
                                                    clear HO282
                                                    clear BK251
                                                    clear HB
                                                    have HO_8 := n0_
                                                    have HO282 := n1_
                                                    have HO292 := n2_
                                                    have BK251 := n3_
                                                    have HB := n4_
                                                    clear n0_ n1_ n2_ n3_ n4_
                                                    clear hb ho83
                                                    refine hK.out _ _ ⟨((HB.out.cell (World.block_lt_of_cell? w _ hw289_0)).trans hw289_0), ((HB.out.cell (World.block_lt_of_cell? w _ hw289_1)).trans hw289_1)⟩ (fun hHeld => ?_)
                                                    clear hK K
                                                    refine norm_ (a' := ?_) ?_ ?_
                                                    rotate_left
                                                    · show Act.put _ (some 82) _ = _
                                                      simp only [Act.put, List.setIfInBounds_toArray, List.set_cons_zero, List.set_cons_succ, i64_w, i32_w]
                                                      rfl
                                                    refine one_ (i := 0) (N := some 73) #[true, true, false, true, true, true, true, true, true, true, false, false] rfl rfl (one_of HT_.out (by kernel_rfl)) (by decide) (fun K hK => ?_)
                                                    refine Kd.R_lit_step k24 _ 24 ?hg (N := 73) ?hd (xs := ([] : List (S24))) (inner := []) (ok := fun _ => True) (okp := fun _ => True) ?hr ?hp (fun _ hk => hk) trivial (Below.refl _ _) (Nat.le_refl _) (by simp) ?_; (case hd => rfl); (case hg => rfl); (case hr => first | (go_simp; done) | (go_simp; rfl)); (case hp => exact (Reps.none _ _))
                                                    intro v284 w84 ho85 hb hg_ hnew_
                                                    clear hg_ hnew_
                                                    (first | rw [← Ny283.out] at ho85 | (simp only [Int.reduceToNat] at ho85; rw [← Ny283.out] at ho85))
                                                    have n0_ := Aside0.mk (Kd.R_elder' (by (with_reducible repeat (first | apply Kd.R_alloc | apply Kd.R_drewN | apply Kd.R_drew)); exact HO_8.out) (Kd.R_base ho85) hb)
                                                    have n1_ := Aside0.mk (Kd.R_elder' (by (with_reducible repeat (first | apply Kd.R_alloc | apply Kd.R_drewN | apply Kd.R_drew)); exact HO282.out) (Kd.R_base ho85) hb)
                                                    have n2_ := Aside0.mk (Kd.R_elder' (by (with_reducible repeat (first | apply Kd.R_alloc | apply Kd.R_drewN | apply Kd.R_drew)); exact HO292.out) (Kd.R_base ho85) hb)
                                                    have n3_ := Aside0.mk (Kd.R_lower (Kd.R_newB (Kd.R_new' (Kd.R_new' (Kd.R_new' ho85 (Kd.R_lt (by (with_reducible repeat (first | apply Kd.R_alloc | apply Kd.R_drewN | apply Kd.R_drew)); exact HO_8.out))) (Kd.R_lt (by (with_reducible repeat (first | apply Kd.R_alloc | apply Kd.R_drewN | apply Kd.R_drew)); exact HO282.out))) (Kd.R_lt (by (with_reducible repeat (first | apply Kd.R_alloc | apply Kd.R_drewN | apply Kd.R_drew)); exact HO292.out))) (g := gb251) (o := .cells #[.int .i64 a1_0, .int .i64 a1_1] 24 (0, 0)) (by (with_reducible repeat (first | refine blk_drewN ?_ _ | refine blk_drew ?_ | refine blk_alloc ?_ _)); exact BK251.out)) (below_size (by repeat (first | (with_reducible first | exact HB.out | apply below_alloc | apply pw_below_drewN | apply below_drew1 | refine below_set ?_ GE251.out) | exact HB.out))))
                                                    have n4_ := Aside0.mk (blk_below (g := gb251) (o := .cells #[.int .i64 a1_0, .int .i64 a1_1] 24 (0, 0)) (by (with_reducible repeat (first | refine blk_drewN ?_ _ | refine blk_drew ?_ | refine blk_alloc ?_ _)); exact BK251.out) hb)
                                                    have n5_ := Aside0.mk (below_step (by repeat (first | (with_reducible first | exact HB.out | apply below_alloc | apply pw_below_drewN | apply below_drew1 | refine below_set ?_ GE251.out) | exact HB.out)) hb)
                                                    clear HO_8
                                                    clear HO282
                                                    clear HO292
                                                    clear BK251
                                                    clear HB
                                                    have HO_8 := n0_
                                                    have HO282 := n1_
                                                    have HO292 := n2_
                                                    have HO285 := n3_
                                                    have BK251 := n4_
                                                    have HB := n5_
                                                    clear n0_ n1_ n2_ n3_ n4_ n5_
                                                    clear hb ho85
                                                    refine hK.out _ _ ⟨((HB.out.cell (World.block_lt_of_cell? w _ hw289_0)).trans hw289_0), ((HB.out.cell (World.block_lt_of_cell? w _ hw289_1)).trans hw289_1)⟩ (fun hHeld => ?_)
                                                    clear hK K
                                                    refine norm_ (a' := ?_) ?_ ?_
                                                    rotate_left
                                                    · show Act.put _ (some 73) _ = _
                                                      simp only [Act.put, List.setIfInBounds_toArray, List.set_cons_zero, List.set_cons_succ, i64_w, i32_w]
                                                      rfl
                                                    refine one_ (i := 2) (N := some 75) #[true, true, true, true, true, true, true, true, true, true, false, false] rfl rfl (one_of HT_.out (by kernel_rfl)) (by decide) (fun K hK => ?_)
                                                    refine Kd.R_append_rows_step k24 (w0 := w) w.heap.size (by rfl) (.tmp 73) (.tmp 74) 22 24 (.agg #[(.int .i64 0), (.int .i64 0)]) 16 rfl Try.underlying22 info24 rfl (by decide) (by omega) v284 y283 l0 _ _ _ (fun k_ => some k_ ≠ (u8 : Value).ownBlock ∧ some k_ ≠ (v281 : Value).ownBlock ∧ some k_ ≠ (v291 : Value).ownBlock ∧ k_ ≠ gb251) (fun _ => False) rfl rfl ?aO ?aR (fun _ _ h => h) (fun _ h => h.elim) ?aF ?aB ?aS ?aL ?_
                                                    (case aR => repeat (first | exact (Kd.C_below HR0.out HB.out) | (with_reducible refine Kd.C_alloc ?_ _) | (with_reducible refine Kd.C_drewN ?_ _) | (with_reducible refine Kd.C_drew ?_)))
                                                    (case aB => exact (by repeat (first | (with_reducible first | exact HB.out | apply below_alloc | apply pw_below_drewN | apply below_drew1 | refine below_set ?_ GE251.out) | exact HB.out)))
                                                    (case aF => exact (fun k_ hk => ⟨Kd.fresh' (Kd.R_lt (by (with_reducible repeat (first | apply Kd.R_alloc | apply Kd.R_drewN | apply Kd.R_drew)); exact HO_8.out)) k_ hk, Kd.fresh' (Kd.R_lt (by (with_reducible repeat (first | apply Kd.R_alloc | apply Kd.R_drewN | apply Kd.R_drew)); exact HO282.out)) k_ hk, Kd.fresh' (Kd.R_lt (by (with_reducible repeat (first | apply Kd.R_alloc | apply Kd.R_drewN | apply Kd.R_drew)); exact HO292.out)) k_ hk, Kd.freshB (g := gb251) (o := .cells #[.int .i64 a1_0, .int .i64 a1_1] 24 (0, 0)) (by (with_reducible repeat (first | refine blk_drewN ?_ _ | refine blk_drew ?_ | refine blk_alloc ?_ _)); exact BK251.out) k_ hk⟩))
                                                    (case aO => exact (by (with_reducible repeat (first | apply Kd.R_alloc | apply Kd.R_drewN | apply Kd.R_drew)); exact Kd.R_mono HO285.out (fun _ hk => ⟨hk.1.1.1.2, ⟨hk.1.1.2, ⟨hk.1.2, hk.2⟩⟩⟩)))
                                                    (case aS => exact (below_size (by repeat (first | (with_reducible first | exact HB.out | apply below_alloc | apply pw_below_drewN | apply below_drew1 | refine below_set ?_ GE251.out) | exact HB.out))))
                                                    (case aL => have := LMc53.out; omega)
                                                    intro v287 w86 ho hb hg hat
                                                    rw [← Ny286.out] at ho
                                                    have n0_ := Aside0.mk (Kd.R_after (ok := (fun k_ => some k_ ≠ (v281 : Value).ownBlock ∧ some k_ ≠ (v291 : Value).ownBlock ∧ k_ ≠ gb251)) (by (with_reducible repeat (first | apply Kd.R_alloc | apply Kd.R_drewN | apply Kd.R_drew)); exact Kd.R_mono HO_8.out (fun _ hk => ⟨⟨hk.1.1.2, ⟨hk.1.2, hk.1.1.1⟩⟩, hk.2⟩)) hg hat)
                                                    have n1_ := Aside0.mk (blk_grown (g := gb251) (o := .cells #[.int .i64 a1_0, .int .i64 a1_1] 24 (0, 0)) (by (with_reducible repeat (first | refine blk_drewN ?_ _ | refine blk_drew ?_ | refine blk_alloc ?_ _)); exact BK251.out) hg (Kd.R_away HO285.out (fun _ hk => hk.2)))
                                                    have n2_ := Aside0.mk (Kd.R_after (ok := (fun k_ => some k_ ≠ (u8 : Value).ownBlock ∧ some k_ ≠ (v291 : Value).ownBlock ∧ k_ ≠ gb251)) (by (with_reducible repeat (first | apply Kd.R_alloc | apply Kd.R_drewN | apply Kd.R_drew)); exact Kd.R_mono HO282.out (fun _ hk => ⟨⟨hk.1.1.1, ⟨hk.1.2, hk.1.1.2⟩⟩, hk.2⟩)) hg hat)
                                                    have n3_ := Aside0.mk (Kd.R_after (ok := (fun k_ => some k_ ≠ (u8 : Value).ownBlock ∧ some k_ ≠ (v281 : Value).ownBlock ∧ k_ ≠ gb251)) (by (with_reducible repeat (first | apply Kd.R_alloc | apply Kd.R_drewN | apply Kd.R_drew)); exact Kd.R_mono HO292.out (fun _ hk => ⟨⟨hk.1.1.1.2, ⟨hk.1.1.2, hk.1.2⟩⟩, hk.2⟩)) hg hat)
                                                    have n4_ := Aside0.mk (hb)
                                                    have n5_ := Aside0.mk (ho)
                                                    clear HO_8
                                                    clear BK251
                                                    clear HO282
                                                    clear HO292
                                                    clear HB
                                                    clear HO285
                                                    have HO_8 := n0_
                                                    have BK251 := n1_
                                                    have HO282 := n2_
                                                    have HO292 := n3_
                                                    have HB := n4_
                                                    have HO288 := n5_
                                                    clear n0_ n1_ n2_ n3_ n4_ n5_
                                                    clear ho hb hg hat
                                                    refine hK.out _ _ ⟨((HB.out.cell (World.block_lt_of_cell? w _ hw289_0)).trans hw289_0), ((HB.out.cell (World.block_lt_of_cell? w _ hw289_1)).trans hw289_1)⟩ (fun hHeld => ?_)
                                                    clear hK K
                                                    refine norm_ (a' := ?_) ?_ ?_
                                                    rotate_left
                                                    · show Act.put _ (some 75) _ = _
                                                      simp only [Act.put, List.setIfInBounds_toArray, List.set_cons_zero, List.set_cons_succ, i64_w, i32_w]
                                                      rfl
                                                    exact norm_ (by simp only [putAll, Act.put, List.setIfInBounds_toArray, List.set_cons_zero, List.set_cons_succ]) (hCont (v284, v287, v291) _ ⟨hHeld, (by (with_reducible repeat (first | apply Kd.R_alloc | apply Kd.R_drewN | apply Kd.R_drew)); exact Kd.R_mono HO282.out (fun _ hk => ⟨hk.2, ⟨hk.1.2.1, ⟨hk.1.1, hk.1.2.2⟩⟩⟩)), (by (with_reducible repeat (first | apply Kd.R_alloc | apply Kd.R_drewN | apply Kd.R_drew)); exact Kd.R_mono HO288.out (fun _ hk => ⟨hk.2.1, ⟨hk.2.2.1, ⟨hk.1, hk.2.2.2⟩⟩⟩)), (by (with_reducible repeat (first | apply Kd.R_alloc | apply Kd.R_drewN | apply Kd.R_drew)); exact Kd.R_mono HO292.out (fun _ hk => ⟨hk.1.2.1, ⟨hk.2, ⟨hk.1.1, hk.1.2.2⟩⟩⟩)), (by (with_reducible repeat (first | apply Kd.R_alloc | apply Kd.R_drewN | apply Kd.R_drew)); exact Kd.R_mono HO_8.out (fun _ hk => ⟨hk.1.1, ⟨hk.2, ⟨hk.1.2.1, hk.1.2.2⟩⟩⟩)), (by (with_reducible repeat (first | refine blk_drewN ?_ _ | refine blk_drew ?_ | refine blk_alloc ?_ _)); exact BK251.out), (by repeat (first | (with_reducible first | exact HB.out | apply below_alloc | apply pw_below_drewN | apply below_drew1 | refine below_set ?_ GE251.out) | exact HB.out))⟩)
                                                rintro ⟨v284, v287, v291⟩ w87 ⟨hS_, h0_, h1_, h2_, h3_, h4_, h5_⟩
                                                have n0_ : Aside0 (Kd.R k24 24 w87 w.heap.size (fun k_ => some k_ ≠ (v287 : Value).ownBlock ∧ some k_ ≠ (v291 : Value).ownBlock ∧ some k_ ≠ (u8 : Value).ownBlock ∧ k_ ≠ gb251) v281 y280) := ⟨h0_⟩
                                                have n1_ : Aside0 (Kd.R k24 24 w87 w.heap.size (fun k_ => some k_ ≠ (v281 : Value).ownBlock ∧ some k_ ≠ (v291 : Value).ownBlock ∧ some k_ ≠ (u8 : Value).ownBlock ∧ k_ ≠ gb251) v287 y286) := ⟨h1_⟩
                                                have n2_ : Aside0 (Kd.R k24 24 w87 w.heap.size (fun k_ => some k_ ≠ (v281 : Value).ownBlock ∧ some k_ ≠ (v287 : Value).ownBlock ∧ some k_ ≠ (u8 : Value).ownBlock ∧ k_ ≠ gb251) v291 y290) := ⟨h2_⟩
                                                have n3_ : Aside0 (Kd.R k24 24 w87 w.heap.size (fun k_ => some k_ ≠ (v281 : Value).ownBlock ∧ some k_ ≠ (v287 : Value).ownBlock ∧ some k_ ≠ (v291 : Value).ownBlock ∧ k_ ≠ gb251) u8 x8_2) := ⟨h3_⟩
                                                have n4_ : Aside0 (w87.heap[gb251]? = some (.cells #[.int .i64 a1_0, .int .i64 a1_1] 24 (0, 0))) := ⟨h4_⟩
                                                have n5_ : Aside0 (Below w.heap.size w w87) := ⟨h5_⟩
                                                clear HO_8
                                                clear HO282
                                                clear BK251
                                                clear HB
                                                clear h0_ h1_ h2_ h3_ h4_ h5_
                                                have HO282 := n0_
                                                have HO288 := n1_
                                                have HO292 := n2_
                                                have HO_8 := n3_
                                                have BK251 := n4_
                                                have HB := n5_
                                                clear n0_ n1_ n2_ n3_ n4_ n5_
                                                have hHeld : w87.cell? (ad289.add (((ji54)).toNat * 2)) = some (.int .i64 ((rd_T24 l0 (ji54)).f0)) ∧ w87.cell? ⟨(ad289.add (((ji54)).toNat * 2)).block, (ad289.add (((ji54)).toNat * 2)).off + 1, none⟩ = some (.int .i64 ((rd_T24 l0 (ji54)).f1)) := hS_
                                                obtain ⟨Ao89, co89, eo89⟩ := Kd.R_slice HO292.out
                                                (first | subst eo89 | (injection eo89 with f1_ f2_ f3_; have f4_ := f1_.symm; have f5_ := f3_.symm; clear f1_ f2_ f3_; subst f4_; subst f5_))
                                                refine norm_ (a' := ?_) ?_ ?_
                                                rotate_left
                                                · simp only [putAll, Act.put, List.setIfInBounds_toArray, List.set_cons_zero, List.set_cons_succ]
                                                  rfl
                                                refine one_ (i := 10) (N := some 83) #[true, true, true, true, true, true, true, true, true, true, true, false] rfl rfl (one_of HT_.out (by kernel_rfl)) (by decide) (fun K hK => ?_)
                                                refine Kd.R_append_rows_step k24 (w0 := w) w.heap.size (by rfl) (.tmp 75) (.tmp 82) 22 24 (.agg #[(.int .i64 0), (.int .i64 0)]) 16 rfl Try.underlying22 info24 rfl (by decide) (by omega) v287 y286 y290 _ _ _ (fun k_ => some k_ ≠ (u8 : Value).ownBlock ∧ some k_ ≠ (v281 : Value).ownBlock ∧ some k_ ≠ (.slice Ao89 y290.length co89 : Value).ownBlock ∧ k_ ≠ gb251) (fun _ => False) rfl rfl ?aO ?aR (fun _ _ h => h) (fun _ h => h.elim) ?aF ?aB ?aS ?aL ?_
                                                (case aR => repeat (first | exact (Kd.R_reads' HO292.out).2.2 | (with_reducible refine Kd.C_alloc ?_ _) | (with_reducible refine Kd.C_drewN ?_ _) | (with_reducible refine Kd.C_drew ?_)))
                                                (case aB => exact (by repeat (first | (with_reducible first | exact HB.out | apply below_alloc | apply pw_below_drewN | apply below_drew1 | refine below_set ?_ GE251.out) | exact HB.out)))
                                                (case aF => exact (fun k_ hk => ⟨Kd.fresh' (Kd.R_lt (by (with_reducible repeat (first | apply Kd.R_alloc | apply Kd.R_drewN | apply Kd.R_drew)); exact HO_8.out)) k_ hk, Kd.fresh' (Kd.R_lt (by (with_reducible repeat (first | apply Kd.R_alloc | apply Kd.R_drewN | apply Kd.R_drew)); exact HO282.out)) k_ hk, Kd.fresh' (Kd.R_lt (by (with_reducible repeat (first | apply Kd.R_alloc | apply Kd.R_drewN | apply Kd.R_drew)); exact HO292.out)) k_ hk, Kd.freshB (g := gb251) (o := .cells #[.int .i64 a1_0, .int .i64 a1_1] 24 (0, 0)) (by (with_reducible repeat (first | refine blk_drewN ?_ _ | refine blk_drew ?_ | refine blk_alloc ?_ _)); exact BK251.out) k_ hk⟩))
                                                (case aO => exact (by (with_reducible repeat (first | apply Kd.R_alloc | apply Kd.R_drewN | apply Kd.R_drew)); exact Kd.R_mono HO288.out (fun _ hk => ⟨hk.2.2.1, ⟨hk.1, ⟨hk.2.1, hk.2.2.2⟩⟩⟩)))
                                                (case aS => exact (below_size (by repeat (first | (with_reducible first | exact HB.out | apply below_alloc | apply pw_below_drewN | apply below_drew1 | refine below_set ?_ GE251.out) | exact HB.out))))
                                                (case aL => have := LMc57.out; omega)
                                                intro v294 w88 ho hb hg hat
                                                rw [← Ny293.out] at ho
                                                have n0_ := Aside0.mk (Kd.R_after (ok := (fun k_ => some k_ ≠ (v281 : Value).ownBlock ∧ some k_ ≠ (.slice Ao89 y290.length co89 : Value).ownBlock ∧ k_ ≠ gb251)) (by (with_reducible repeat (first | apply Kd.R_alloc | apply Kd.R_drewN | apply Kd.R_drew)); exact Kd.R_mono HO_8.out (fun _ hk => ⟨⟨hk.1, ⟨hk.2.2.1, hk.2.2.2⟩⟩, hk.2.1⟩)) hg hat)
                                                have n1_ := Aside0.mk (blk_grown (g := gb251) (o := .cells #[.int .i64 a1_0, .int .i64 a1_1] 24 (0, 0)) (by (with_reducible repeat (first | refine blk_drewN ?_ _ | refine blk_drew ?_ | refine blk_alloc ?_ _)); exact BK251.out) hg (Kd.R_away HO288.out (fun _ hk => hk.2.2.2)))
                                                have n2_ := Aside0.mk (Kd.R_after (ok := (fun k_ => some k_ ≠ (u8 : Value).ownBlock ∧ some k_ ≠ (.slice Ao89 y290.length co89 : Value).ownBlock ∧ k_ ≠ gb251)) (by (with_reducible repeat (first | apply Kd.R_alloc | apply Kd.R_drewN | apply Kd.R_drew)); exact Kd.R_mono HO282.out (fun _ hk => ⟨⟨hk.2.2.1, ⟨hk.2.1, hk.2.2.2⟩⟩, hk.1⟩)) hg hat)
                                                have n3_ := Aside0.mk (Kd.R_after (ok := (fun k_ => some k_ ≠ (u8 : Value).ownBlock ∧ some k_ ≠ (v281 : Value).ownBlock ∧ k_ ≠ gb251)) (by (with_reducible repeat (first | apply Kd.R_alloc | apply Kd.R_drewN | apply Kd.R_drew)); exact Kd.R_mono HO292.out (fun _ hk => ⟨⟨hk.2.2.1, ⟨hk.1, hk.2.2.2⟩⟩, hk.2.1⟩)) hg hat)
                                                have n4_ := Aside0.mk (hb)
                                                have n5_ := Aside0.mk (ho)
                                                clear HO_8
                                                clear BK251
                                                clear HO282
                                                clear HO292
                                                clear HB
                                                clear HO288
                                                have HO_8 := n0_
                                                have BK251 := n1_
                                                have HO282 := n2_
                                                have HO292 := n3_
                                                have HB := n4_
                                                have HO295 := n5_
                                                clear n0_ n1_ n2_ n3_ n4_ n5_
                                                clear ho hb hg hat
                                                refine hK.out _ _ ⟨((HB.out.cell (World.block_lt_of_cell? w _ hw289_0)).trans hw289_0), ((HB.out.cell (World.block_lt_of_cell? w _ hw289_1)).trans hw289_1)⟩ (fun hHeld => ?_)
                                                clear hK K
                                                refine norm_ (a' := ?_) ?_ ?_
                                                rotate_left
                                                · show Act.put _ (some 83) _ = _
                                                  simp only [Act.put, List.setIfInBounds_toArray, List.set_cons_zero, List.set_cons_succ, i64_w, i32_w]
                                                  rfl
                                                refine pure_ (i := 11) (N := some 11) (v := ?_) (a' := ?_) #[true, true, true, true, true, true, true, true, true, true, true, true] rfl rfl (any_of HT_.out (by kernel_rfl)) (fun _ _ _ h => h) (Or.inl ⟨by rfl, ?_⟩) ?_ ?_
                                                rotate_left
                                                · intro w'
                                                  go_simp
                                                  with_reducible rfl
                                                rotate_left
                                                · simp only [Act.put, List.setIfInBounds_toArray, List.set_cons_zero, List.set_cons_succ, i64_w, i32_w]
                                                  rfl
                                                refine done_ (done_of HT_.out (by kernel_rfl)) ?_
                                                try go_wp2_with (first | ((with_reducible refine gate_dst (N := 84) rfl ?_); (try (refine gate_guard (by rfl) ?_; dsimp only)); refine Kd.R_lit k24 _ 24 ?hg (N := 84) ?hd (xs := ([] : List (S24))) (inner := []) (ok := fun _ => True) (okp := fun _ => True) ?hr ?hp (fun _ hk => hk) trivial (Below.refl _ _) (Nat.le_refl _) (by simp) ?_; (case hd => rfl); (case hg => rfl); (case hr => first | (go_simp; done) | (go_simp; rfl)); (case hp => exact (Reps.none _ _)); intro v297 w90 ho91 hb hg_ hnew_; clear hg_ hnew_; (first | rw [← Ny296.out] at ho91 | (simp only [Int.reduceToNat] at ho91; rw [← Ny296.out] at ho91)); have n0_ := Aside0.mk (Kd.R_elder' (by (with_reducible repeat (first | apply Kd.R_alloc | apply Kd.R_drewN | apply Kd.R_drew)); exact HO_8.out) (Kd.R_base ho91) hb); have n1_ := Aside0.mk (Kd.R_elder' (by (with_reducible repeat (first | apply Kd.R_alloc | apply Kd.R_drewN | apply Kd.R_drew)); exact HO282.out) (Kd.R_base ho91) hb); have n2_ := Aside0.mk (Kd.R_elder' (by (with_reducible repeat (first | apply Kd.R_alloc | apply Kd.R_drewN | apply Kd.R_drew)); exact HO292.out) (Kd.R_base ho91) hb); have n3_ := Aside0.mk (Kd.R_elder' (by (with_reducible repeat (first | apply Kd.R_alloc | apply Kd.R_drewN | apply Kd.R_drew)); exact HO295.out) (Kd.R_base ho91) hb); have n4_ := Aside0.mk (Kd.R_lower (Kd.R_newB (Kd.R_new' (Kd.R_new' (Kd.R_new' (Kd.R_new' ho91 (Kd.R_lt (by (with_reducible repeat (first | apply Kd.R_alloc | apply Kd.R_drewN | apply Kd.R_drew)); exact HO_8.out))) (Kd.R_lt (by (with_reducible repeat (first | apply Kd.R_alloc | apply Kd.R_drewN | apply Kd.R_drew)); exact HO282.out))) (Kd.R_lt (by (with_reducible repeat (first | apply Kd.R_alloc | apply Kd.R_drewN | apply Kd.R_drew)); exact HO292.out))) (Kd.R_lt (by (with_reducible repeat (first | apply Kd.R_alloc | apply Kd.R_drewN | apply Kd.R_drew)); exact HO295.out))) (g := gb251) (o := .cells #[.int .i64 a1_0, .int .i64 a1_1] 24 (0, 0)) (by (with_reducible repeat (first | refine blk_drewN ?_ _ | refine blk_drew ?_ | refine blk_alloc ?_ _)); exact BK251.out)) (below_size (by repeat (first | (with_reducible first | exact HB.out | apply below_alloc | apply pw_below_drewN | apply below_drew1 | refine below_set ?_ GE251.out) | exact HB.out)))); have n5_ := Aside0.mk (blk_below (g := gb251) (o := .cells #[.int .i64 a1_0, .int .i64 a1_1] 24 (0, 0)) (by (with_reducible repeat (first | refine blk_drewN ?_ _ | refine blk_drew ?_ | refine blk_alloc ?_ _)); exact BK251.out) hb); have n6_ := Aside0.mk (below_step (by repeat (first | (with_reducible first | exact HB.out | apply below_alloc | apply pw_below_drewN | apply below_drew1 | refine below_set ?_ GE251.out) | exact HB.out)) hb); clear HO_8; clear HO282; clear HO292; clear HO295; clear BK251; clear HB; have HO_8 := n0_; have HO282 := n1_; have HO292 := n2_; have HO295 := n3_; have HO298 := n4_; have BK251 := n5_; have HB := n6_; clear n0_ n1_ n2_ n3_ n4_ n5_ n6_; clear hb ho91; have q92 : ((ji58) : Int) ≤ ((l0.length : Int) : Int) := of_decide_eq_true (by first | (with_reducible assumption) | assumption); obtain ⟨i092, hi092, _, hsz92, _⟩ := info_parts info24; have hroom92 : l0.length ≤ c0 := HC0.out; have hC92 : Kd.C k24 _ (some ad289) l0.length l0 := HR0.out; have hcut92 := cut_to (P := Try.prog) 22 24 .i64 Try.underlying22 hi092 (some ad289) l0.length c0 (ji58) (of_decide_eq_true (by first | (with_reducible assumption) | assumption)) q92 hroom92; have hr92 := Kd.C_take (m := ((ji58) : Int).toNat) hC92 (by omega); have hy92 : y299.length = ((ji58) : Int).toNat := (by rw [Ny299.out, List.length_take]; omega); rw [← Ny299.out] at hr92; rw [← hy92] at hcut92; have HR302 := Aside0.mk hr92; have HC302 := Aside0.mk (show y299.length ≤ c0 from by omega); clear hr92 hC92 hroom92 hi092 hsz92; have KY92 := Aside0.mk hy92; clear hy92; replace q92 := eq_true q92) | ((with_reducible refine gate_builtin (b := .append) (xs := #[.tmp 84, .tmp 88]) rfl ?_); (try (refine gate_guard (by rfl) ?_; dsimp only)); at_builtin; refine Kd.R_append_rows k24 (w0 := w) w.heap.size rfl (.tmp 84) (.tmp 88) 22 24 (.agg #[(.int .i64 0), (.int .i64 0)]) 16 rfl Try.underlying22 info24 rfl (by decide) (by omega) v297 y296 y299 _ _ _ (fun k_ => some k_ ≠ (u8 : Value).ownBlock ∧ some k_ ≠ (v281 : Value).ownBlock ∧ some k_ ≠ (.slice Ao89 y290.length co89 : Value).ownBlock ∧ some k_ ≠ (v294 : Value).ownBlock ∧ k_ ≠ gb251) (fun _ => False) rfl rfl ?aO ?aR (fun _ _ h => h) (fun _ h => h.elim) ?aF ?aB ?aS ?aL ?_; (case aR => repeat (first | exact (Kd.C_below HR302.out HB.out) | (with_reducible refine Kd.C_alloc ?_ _) | (with_reducible refine Kd.C_drewN ?_ _) | (with_reducible refine Kd.C_drew ?_))); (case aB => exact (by repeat (first | (with_reducible first | exact HB.out | apply below_alloc | apply pw_below_drewN | apply below_drew1 | refine below_set ?_ GE251.out) | exact HB.out))); (case aF => exact (fun k_ hk => ⟨Kd.fresh' (Kd.R_lt (by (with_reducible repeat (first | apply Kd.R_alloc | apply Kd.R_drewN | apply Kd.R_drew)); exact HO_8.out)) k_ hk, Kd.fresh' (Kd.R_lt (by (with_reducible repeat (first | apply Kd.R_alloc | apply Kd.R_drewN | apply Kd.R_drew)); exact HO282.out)) k_ hk, Kd.fresh' (Kd.R_lt (by (with_reducible repeat (first | apply Kd.R_alloc | apply Kd.R_drewN | apply Kd.R_drew)); exact HO292.out)) k_ hk, Kd.fresh' (Kd.R_lt (by (with_reducible repeat (first | apply Kd.R_alloc | apply Kd.R_drewN | apply Kd.R_drew)); exact HO295.out)) k_ hk, Kd.freshB (g := gb251) (o := .cells #[.int .i64 a1_0, .int .i64 a1_1] 24 (0, 0)) (by (with_reducible repeat (first | refine blk_drewN ?_ _ | refine blk_drew ?_ | refine blk_alloc ?_ _)); exact BK251.out) k_ hk⟩)); (case aO => exact (by (with_reducible repeat (first | apply Kd.R_alloc | apply Kd.R_drewN | apply Kd.R_drew)); exact Kd.R_mono HO298.out (fun _ hk => ⟨hk.1.1.1.1.2, ⟨hk.1.1.1.2, ⟨hk.1.1.2, ⟨hk.1.2, hk.2⟩⟩⟩⟩))); (case aS => exact (below_size (by repeat (first | (with_reducible first | exact HB.out | apply below_alloc | apply pw_below_drewN | apply below_drew1 | refine below_set ?_ GE251.out) | exact HB.out)))); (case aL => have := LMc61.out; omega); intro v304 w93 ho hb hg hat; rw [← Ny303.out] at ho; have n0_ := Aside0.mk (Kd.R_after (ok := (fun k_ => some k_ ≠ (v281 : Value).ownBlock ∧ some k_ ≠ (.slice Ao89 y290.length co89 : Value).ownBlock ∧ some k_ ≠ (v294 : Value).ownBlock ∧ k_ ≠ gb251)) (by (with_reducible repeat (first | apply Kd.R_alloc | apply Kd.R_drewN | apply Kd.R_drew)); exact Kd.R_mono HO_8.out (fun _ hk => ⟨⟨hk.1.1.1, ⟨hk.1.1.2.1, ⟨hk.1.2, hk.1.1.2.2⟩⟩⟩, hk.2⟩)) hg hat); have n1_ := Aside0.mk (blk_grown (g := gb251) (o := .cells #[.int .i64 a1_0, .int .i64 a1_1] 24 (0, 0)) (by (with_reducible repeat (first | refine blk_drewN ?_ _ | refine blk_drew ?_ | refine blk_alloc ?_ _)); exact BK251.out) hg (Kd.R_away HO298.out (fun _ hk => hk.2))); have n2_ := Aside0.mk (Kd.R_after (ok := (fun k_ => some k_ ≠ (u8 : Value).ownBlock ∧ some k_ ≠ (.slice Ao89 y290.length co89 : Value).ownBlock ∧ some k_ ≠ (v294 : Value).ownBlock ∧ k_ ≠ gb251)) (by (with_reducible repeat (first | apply Kd.R_alloc | apply Kd.R_drewN | apply Kd.R_drew)); exact Kd.R_mono HO282.out (fun _ hk => ⟨⟨hk.1.1.1, ⟨hk.1.1.2.1, ⟨hk.1.2, hk.1.1.2.2⟩⟩⟩, hk.2⟩)) hg hat); have n3_ := Aside0.mk (Kd.R_after (ok := (fun k_ => some k_ ≠ (u8 : Value).ownBlock ∧ some k_ ≠ (v281 : Value).ownBlock ∧ some k_ ≠ (v294 : Value).ownBlock ∧ k_ ≠ gb251)) (by (with_reducible repeat (first | apply Kd.R_alloc | apply Kd.R_drewN | apply Kd.R_drew)); exact Kd.R_mono HO292.out (fun _ hk => ⟨⟨hk.1.1.1, ⟨hk.1.1.2.1, ⟨hk.1.2, hk.1.1.2.2⟩⟩⟩, hk.2⟩)) hg hat); have n4_ := Aside0.mk (Kd.R_after (ok := (fun k_ => some k_ ≠ (u8 : Value).ownBlock ∧ some k_ ≠ (v281 : Value).ownBlock ∧ some k_ ≠ (.slice Ao89 y290.length co89 : Value).ownBlock ∧ k_ ≠ gb251)) (by (with_reducible repeat (first | apply Kd.R_alloc | apply Kd.R_drewN | apply Kd.R_drew)); exact HO295.out) hg hat); have n5_ := Aside0.mk (hb); have n6_ := Aside0.mk (ho); clear HO_8; clear BK251; clear HO282; clear HO292; clear HO295; clear HB; clear HO298; have HO_8 := n0_; have BK251 := n1_; have HO282 := n2_; have HO292 := n3_; have HO295 := n4_; have HB := n5_; have HO305 := n6_; clear n0_ n1_ n2_ n3_ n4_ n5_ n6_; clear ho hb hg hat))
                                                have n0_ := Aside0.mk (Kd.R_drew HO_8.out)
                                                have n1_ := Aside0.mk (Kd.R_drew HO282.out)
                                                have n2_ := Aside0.mk (Kd.R_drew HO292.out)
                                                have n3_ := Aside0.mk (Kd.R_drew HO295.out)
                                                have n4_ := Aside0.mk (Kd.R_drew HO305.out)
                                                have n5_ := Aside0.mk (blk_drew BK251.out)
                                                have n6_ := Aside0.mk (below_drew1 HB.out)
                                                clear HO_8
                                                clear HO282
                                                clear HO292
                                                clear HO295
                                                clear HO305
                                                clear BK251
                                                clear HB
                                                have HO_8 := n0_
                                                have HO282 := n1_
                                                have HO292 := n2_
                                                have HO295 := n3_
                                                have HO305 := n4_
                                                have BK251 := n5_
                                                have HB := n6_
                                                clear n0_ n1_ n2_ n3_ n4_ n5_ n6_
                                                have p306 : 0 ≤ (0 : Int) := (by omega)
                                                have q306 : 0 < (l0.length : Int) := of_decide_eq_true (by first | (with_reducible assumption) | assumption)
                                                obtain ⟨ad306, e306, hx306_0, hx306_1⟩ := at_T24 HR0.out 0 p306 q306
                                                have hw306_1 := hx306_1
                                                (try rw [show ((0 : Int)).toNat = 0 from rfl] at hw306_1)
                                                (try rw [show 0 * 2 = 0 from rfl] at hw306_1)
                                                (try rw [Addr.add_zero'] at hw306_1)
                                                have hw306_0 := hx306_0
                                                (try rw [show ((0 : Int)).toNat = 0 from rfl] at hw306_0)
                                                (try rw [show 0 * 2 = 0 from rfl] at hw306_0)
                                                (try rw [Addr.add_zero'] at hw306_0)
                                                obtain rfl : ad289 = ad306 := (by injection e306)
                                                have qi306 : (0 < l0.length) = True := eq_true (by omega)
                                                (try rw [show ((0 : Int)).toNat = 0 from rfl] at hx306_0)
                                                (try rw [show 0 * 2 = 0 from rfl] at hx306_0)
                                                (try rw [Addr.add_zero'] at hx306_0)
                                                (try rw [show ((0 : Int)).toNat = 0 from rfl] at hx306_1)
                                                (try rw [show 0 * 2 = 0 from rfl] at hx306_1)
                                                (try rw [Addr.add_zero'] at hx306_1)
                                                replace hx306_0 := (HB.out.cell (World.block_lt_of_cell? w _ hx306_0)).trans hx306_0
                                                replace hx306_1 := (HB.out.cell (World.block_lt_of_cell? w _ hx306_1)).trans hx306_1
                                                replace p306 := eq_true p306
                                                replace q306 := eq_true q306
                                                refine start_ (n := 9) (S := fun w' => w'.cell? ad289 = some (.int .i64 ((rd_T24 l0 0).f0)) ∧ w'.cell? ⟨ad289.block, ad289.off + 1, none⟩ = some (.int .i64 ((rd_T24 l0 0).f1))) (ds := []) #[false, false, false, false, false, false, false, false, false] (by kernel_rfl) rfl rfl ⟨((HB.out.cell (World.block_lt_of_cell? w _ hw306_0)).trans hw306_0), ((HB.out.cell (World.block_lt_of_cell? w _ hw306_1)).trans hw306_1)⟩ (fun hHeld => ?_); refine with_tabW limnerlaw03_GeomTurns.tab13 limnerlaw03_GeomTurns.bits13 (fun HT_ HW_ => ?_)
                                                generalize w93.drew = w94 at HO_8 HO282 HO292 HO295 HO305 BK251 HB hx306_0 hx306_1 hHeld ⊢
                                                refine pure_ (i := 0) (N := some 90) (v := ?_) (a' := ?_) #[true, false, false, false, false, false, false, false, false] rfl rfl (any_of HT_.out (by kernel_rfl)) (fun _ _ _ h => h) (Or.inl ⟨by rfl, ?_⟩) ?_ ?_
                                                rotate_left
                                                · intro w'
                                                  go_simp
                                                  with_reducible rfl
                                                rotate_left
                                                · simp only [Act.put, List.setIfInBounds_toArray, List.set_cons_zero, List.set_cons_succ, i64_w, i32_w]
                                                  rfl
                                                refine pure_ (i := 1) (N := some 91) (v := ?_) (a' := ?_) #[true, true, false, false, false, false, false, false, false] rfl rfl (any_of HT_.out (by kernel_rfl)) (fun _ _ _ h => h) (Or.inl ⟨by rfl, ?_⟩) ?_ ?_
                                                rotate_left
                                                · intro w'
                                                  go_simp
                                                  with_reducible rfl
                                                rotate_left
                                                · simp only [Act.put, List.setIfInBounds_toArray, List.set_cons_zero, List.set_cons_succ, i64_w, i32_w]
                                                  rfl
                                                refine pure_ (i := 4) (N := some 94) (v := ?_) (a' := ?_) #[true, true, false, false, true, false, false, false, false] rfl rfl (any_of HT_.out (by kernel_rfl)) (fun _ _ _ h => h) (Or.inl ⟨by rfl, ?_⟩) ?_ ?_
                                                rotate_left
                                                · intro w'
                                                  go_simp
                                                  with_reducible rfl
                                                rotate_left
                                                · simp only [Act.put, List.setIfInBounds_toArray, List.set_cons_zero, List.set_cons_succ, i64_w, i32_w]
                                                  rfl
                                                refine pure_ (i := 5) (N := some 95) (v := ?_) (a' := ?_) #[true, true, false, false, true, true, false, false, false] rfl rfl (any_of HT_.out (by kernel_rfl)) (fun _ _ _ h => h) (Or.inl ⟨by rfl, ?_⟩) ?_ ?_
                                                rotate_left
                                                · intro w'
                                                  go_simp
                                                  with_reducible rfl
                                                rotate_left
                                                · simp only [Act.put, List.setIfInBounds_toArray, List.set_cons_zero, List.set_cons_succ, i64_w, i32_w]
                                                  rfl
                                                refine pure_ (i := 6) (N := some 96) (v := ?_) (a' := ?_) #[true, true, false, false, true, true, true, false, false] rfl rfl (any_of HT_.out (by kernel_rfl)) (fun _ _ _ h => h) (Or.inl ⟨by rfl, ?_⟩) ?_ ?_
                                                rotate_left
                                                · intro w'
                                                  go_simp
                                                  with_reducible rfl
                                                rotate_left
                                                · simp only [Act.put, List.setIfInBounds_toArray, List.set_cons_zero, List.set_cons_succ, i64_w, i32_w]
                                                  rfl
                                                refine take_ (i := 2) (N := some 92) (v := ?_) (a' := ?_) #[true, true, true, false, true, true, true, false, false] rfl rfl (take_ofW HT_.out HW_.out (by kernel_rfl)) (fun _ _ _ h => h) (Or.inl ⟨by rfl, ?_⟩) hHeld ?_ ?_
                                                rotate_left
                                                · rintro w' ⟨s0, s1⟩
                                                  go_simp
                                                  with_reducible rfl
                                                rotate_left
                                                · simp only [Act.put, List.setIfInBounds_toArray, List.set_cons_zero, List.set_cons_succ, i64_w, i32_w]
                                                  rfl
                                                refine one_ (i := 3) (N := some 93) #[true, true, true, true, true, true, true, false, false] rfl rfl (one_of HT_.out (by kernel_rfl)) (by decide) (fun K hK => ?_)
                                                refine Kd.R_lit_step k24 _ 24 ?hg (N := 93) ?hd (xs := ([(⟨(rd_T24 l0 0).f0, (rd_T24 l0 0).f1⟩ : S24)] : List (S24))) (inner := [.int .i64 ((rd_T24 l0 0).f0), .int .i64 ((rd_T24 l0 0).f1)]) (ok := fun _ => True) (okp := fun _ => True) ?hr ?hp (fun _ hk => hk) trivial (Below.refl _ _) (Nat.le_refl _) (by simp) ?_; (case hd => rfl); (case hg => rfl); (case hr => first | (go_simp; done) | (go_simp; rfl)); (case hp => exact (Reps.c2 (show Kd.M k24 _ _ _ (⟨(rd_T24 l0 0).f0, (rd_T24 l0 0).f1⟩ : S24) [.int .i64 ((rd_T24 l0 0).f0), .int .i64 ((rd_T24 l0 0).f1)] from (k24_mkM _ _ _ (⟨(rd_T24 l0 0).f0, (rd_T24 l0 0).f1⟩ : S24) )) (Reps.none _ _)))
                                                intro v308 w95 ho96 hb hg_ hnew_
                                                clear hg_ hnew_
                                                (first | rw [← Ny307.out] at ho96 | (simp only [Int.reduceToNat] at ho96; rw [← Ny307.out] at ho96))
                                                have n0_ := Aside0.mk (Kd.R_elder' (by (with_reducible repeat (first | apply Kd.R_alloc | apply Kd.R_drewN | apply Kd.R_drew)); exact HO_8.out) (Kd.R_base ho96) hb)
                                                have n1_ := Aside0.mk (Kd.R_elder' (by (with_reducible repeat (first | apply Kd.R_alloc | apply Kd.R_drewN | apply Kd.R_drew)); exact HO282.out) (Kd.R_base ho96) hb)
                                                have n2_ := Aside0.mk (Kd.R_elder' (by (with_reducible repeat (first | apply Kd.R_alloc | apply Kd.R_drewN | apply Kd.R_drew)); exact HO292.out) (Kd.R_base ho96) hb)
                                                have n3_ := Aside0.mk (Kd.R_elder' (by (with_reducible repeat (first | apply Kd.R_alloc | apply Kd.R_drewN | apply Kd.R_drew)); exact HO295.out) (Kd.R_base ho96) hb)
                                                have n4_ := Aside0.mk (Kd.R_elder' (by (with_reducible repeat (first | apply Kd.R_alloc | apply Kd.R_drewN | apply Kd.R_drew)); exact HO305.out) (Kd.R_base ho96) hb)
                                                have n5_ := Aside0.mk (Kd.R_lower (Kd.R_newB (Kd.R_new' (Kd.R_new' (Kd.R_new' (Kd.R_new' (Kd.R_new' ho96 (Kd.R_lt (by (with_reducible repeat (first | apply Kd.R_alloc | apply Kd.R_drewN | apply Kd.R_drew)); exact HO_8.out))) (Kd.R_lt (by (with_reducible repeat (first | apply Kd.R_alloc | apply Kd.R_drewN | apply Kd.R_drew)); exact HO282.out))) (Kd.R_lt (by (with_reducible repeat (first | apply Kd.R_alloc | apply Kd.R_drewN | apply Kd.R_drew)); exact HO292.out))) (Kd.R_lt (by (with_reducible repeat (first | apply Kd.R_alloc | apply Kd.R_drewN | apply Kd.R_drew)); exact HO295.out))) (Kd.R_lt (by (with_reducible repeat (first | apply Kd.R_alloc | apply Kd.R_drewN | apply Kd.R_drew)); exact HO305.out))) (g := gb251) (o := .cells #[.int .i64 a1_0, .int .i64 a1_1] 24 (0, 0)) (by (with_reducible repeat (first | refine blk_drewN ?_ _ | refine blk_drew ?_ | refine blk_alloc ?_ _)); exact BK251.out)) (below_size (by repeat (first | (with_reducible first | exact HB.out | apply below_alloc | apply pw_below_drewN | apply below_drew1 | refine below_set ?_ GE251.out) | exact HB.out))))
                                                have n6_ := Aside0.mk (blk_below (g := gb251) (o := .cells #[.int .i64 a1_0, .int .i64 a1_1] 24 (0, 0)) (by (with_reducible repeat (first | refine blk_drewN ?_ _ | refine blk_drew ?_ | refine blk_alloc ?_ _)); exact BK251.out) hb)
                                                have n7_ := Aside0.mk (below_step (by repeat (first | (with_reducible first | exact HB.out | apply below_alloc | apply pw_below_drewN | apply below_drew1 | refine below_set ?_ GE251.out) | exact HB.out)) hb)
                                                clear HO_8
                                                clear HO282
                                                clear HO292
                                                clear HO295
                                                clear HO305
                                                clear BK251
                                                clear HB
                                                have HO_8 := n0_
                                                have HO282 := n1_
                                                have HO292 := n2_
                                                have HO295 := n3_
                                                have HO305 := n4_
                                                have HO309 := n5_
                                                have BK251 := n6_
                                                have HB := n7_
                                                clear n0_ n1_ n2_ n3_ n4_ n5_ n6_ n7_
                                                clear hb ho96
                                                refine hK.out _ _ ⟨((HB.out.cell (World.block_lt_of_cell? w _ hw306_0)).trans hw306_0), ((HB.out.cell (World.block_lt_of_cell? w _ hw306_1)).trans hw306_1)⟩ (fun hHeld => ?_)
                                                clear hK K
                                                refine norm_ (a' := ?_) ?_ ?_
                                                rotate_left
                                                · show Act.put _ (some 93) _ = _
                                                  simp only [Act.put, List.setIfInBounds_toArray, List.set_cons_zero, List.set_cons_succ, i64_w, i32_w]
                                                  rfl
                                                refine one_ (i := 7) (N := some 97) #[true, true, true, true, true, true, true, true, false] rfl rfl (one_of HT_.out (by kernel_rfl)) (by decide) (fun K hK => ?_)
                                                refine Kd.R_append_rows_step k24 (w0 := w) w.heap.size (by rfl) (.tmp 93) (.tmp 96) 22 24 (.agg #[(.int .i64 0), (.int .i64 0)]) 16 rfl Try.underlying22 info24 rfl (by decide) (by omega) v308 y307 y269 _ _ _ (fun k_ => some k_ ≠ (u8 : Value).ownBlock ∧ some k_ ≠ (v281 : Value).ownBlock ∧ some k_ ≠ (.slice Ao89 y290.length co89 : Value).ownBlock ∧ some k_ ≠ (v294 : Value).ownBlock ∧ some k_ ≠ (v304 : Value).ownBlock ∧ k_ ≠ gb251) (fun _ => False) rfl rfl ?aO ?aR (fun _ _ h => h) (fun _ h => h.elim) ?aF ?aB ?aS ?aL ?_
                                                (case aR => repeat (first | exact (Kd.C_below HR272.out HB.out) | (with_reducible refine Kd.C_alloc ?_ _) | (with_reducible refine Kd.C_drewN ?_ _) | (with_reducible refine Kd.C_drew ?_)))
                                                (case aB => exact (by repeat (first | (with_reducible first | exact HB.out | apply below_alloc | apply pw_below_drewN | apply below_drew1 | refine below_set ?_ GE251.out) | exact HB.out)))
                                                (case aF => exact (fun k_ hk => ⟨Kd.fresh' (Kd.R_lt (by (with_reducible repeat (first | apply Kd.R_alloc | apply Kd.R_drewN | apply Kd.R_drew)); exact HO_8.out)) k_ hk, Kd.fresh' (Kd.R_lt (by (with_reducible repeat (first | apply Kd.R_alloc | apply Kd.R_drewN | apply Kd.R_drew)); exact HO282.out)) k_ hk, Kd.fresh' (Kd.R_lt (by (with_reducible repeat (first | apply Kd.R_alloc | apply Kd.R_drewN | apply Kd.R_drew)); exact HO292.out)) k_ hk, Kd.fresh' (Kd.R_lt (by (with_reducible repeat (first | apply Kd.R_alloc | apply Kd.R_drewN | apply Kd.R_drew)); exact HO295.out)) k_ hk, Kd.fresh' (Kd.R_lt (by (with_reducible repeat (first | apply Kd.R_alloc | apply Kd.R_drewN | apply Kd.R_drew)); exact HO305.out)) k_ hk, Kd.freshB (g := gb251) (o := .cells #[.int .i64 a1_0, .int .i64 a1_1] 24 (0, 0)) (by (with_reducible repeat (first | refine blk_drewN ?_ _ | refine blk_drew ?_ | refine blk_alloc ?_ _)); exact BK251.out) k_ hk⟩))
                                                (case aO => exact (by (with_reducible repeat (first | apply Kd.R_alloc | apply Kd.R_drewN | apply Kd.R_drew)); exact Kd.R_mono HO309.out (fun _ hk => ⟨hk.1.1.1.1.1.2, ⟨hk.1.1.1.1.2, ⟨hk.1.1.1.2, ⟨hk.1.1.2, ⟨hk.1.2, hk.2⟩⟩⟩⟩⟩)))
                                                (case aS => exact (below_size (by repeat (first | (with_reducible first | exact HB.out | apply below_alloc | apply pw_below_drewN | apply below_drew1 | refine below_set ?_ GE251.out) | exact HB.out))))
                                                (case aL => have := LMc63.out; omega)
                                                intro v315 w97 ho hb hg hat
                                                rw [← Ny314.out] at ho
                                                have n0_ := Aside0.mk (Kd.R_after (ok := (fun k_ => some k_ ≠ (v281 : Value).ownBlock ∧ some k_ ≠ (.slice Ao89 y290.length co89 : Value).ownBlock ∧ some k_ ≠ (v294 : Value).ownBlock ∧ some k_ ≠ (v304 : Value).ownBlock ∧ k_ ≠ gb251)) (by (with_reducible repeat (first | apply Kd.R_alloc | apply Kd.R_drewN | apply Kd.R_drew)); exact Kd.R_mono HO_8.out (fun _ hk => ⟨⟨hk.1.1.1, ⟨hk.1.1.2.1, ⟨hk.1.1.2.2.1, ⟨hk.1.2, hk.1.1.2.2.2⟩⟩⟩⟩, hk.2⟩)) hg hat)
                                                have n1_ := Aside0.mk (blk_grown (g := gb251) (o := .cells #[.int .i64 a1_0, .int .i64 a1_1] 24 (0, 0)) (by (with_reducible repeat (first | refine blk_drewN ?_ _ | refine blk_drew ?_ | refine blk_alloc ?_ _)); exact BK251.out) hg (Kd.R_away HO309.out (fun _ hk => hk.2)))
                                                have n2_ := Aside0.mk (Kd.R_after (ok := (fun k_ => some k_ ≠ (u8 : Value).ownBlock ∧ some k_ ≠ (.slice Ao89 y290.length co89 : Value).ownBlock ∧ some k_ ≠ (v294 : Value).ownBlock ∧ some k_ ≠ (v304 : Value).ownBlock ∧ k_ ≠ gb251)) (by (with_reducible repeat (first | apply Kd.R_alloc | apply Kd.R_drewN | apply Kd.R_drew)); exact Kd.R_mono HO282.out (fun _ hk => ⟨⟨hk.1.1.1, ⟨hk.1.1.2.1, ⟨hk.1.1.2.2.1, ⟨hk.1.2, hk.1.1.2.2.2⟩⟩⟩⟩, hk.2⟩)) hg hat)
                                                have n3_ := Aside0.mk (Kd.R_after (ok := (fun k_ => some k_ ≠ (u8 : Value).ownBlock ∧ some k_ ≠ (v281 : Value).ownBlock ∧ some k_ ≠ (v294 : Value).ownBlock ∧ some k_ ≠ (v304 : Value).ownBlock ∧ k_ ≠ gb251)) (by (with_reducible repeat (first | apply Kd.R_alloc | apply Kd.R_drewN | apply Kd.R_drew)); exact Kd.R_mono HO292.out (fun _ hk => ⟨⟨hk.1.1.1, ⟨hk.1.1.2.1, ⟨hk.1.1.2.2.1, ⟨hk.1.2, hk.1.1.2.2.2⟩⟩⟩⟩, hk.2⟩)) hg hat)
                                                have n4_ := Aside0.mk (Kd.R_after (ok := (fun k_ => some k_ ≠ (u8 : Value).ownBlock ∧ some k_ ≠ (v281 : Value).ownBlock ∧ some k_ ≠ (.slice Ao89 y290.length co89 : Value).ownBlock ∧ some k_ ≠ (v304 : Value).ownBlock ∧ k_ ≠ gb251)) (by (with_reducible repeat (first | apply Kd.R_alloc | apply Kd.R_drewN | apply Kd.R_drew)); exact Kd.R_mono HO295.out (fun _ hk => ⟨⟨hk.1.1.1, ⟨hk.1.1.2.1, ⟨hk.1.1.2.2.1, ⟨hk.1.2, hk.1.1.2.2.2⟩⟩⟩⟩, hk.2⟩)) hg hat)
                                                have n5_ := Aside0.mk (Kd.R_after (ok := (fun k_ => some k_ ≠ (u8 : Value).ownBlock ∧ some k_ ≠ (v281 : Value).ownBlock ∧ some k_ ≠ (.slice Ao89 y290.length co89 : Value).ownBlock ∧ some k_ ≠ (v294 : Value).ownBlock ∧ k_ ≠ gb251)) (by (with_reducible repeat (first | apply Kd.R_alloc | apply Kd.R_drewN | apply Kd.R_drew)); exact HO305.out) hg hat)
                                                have n6_ := Aside0.mk (hb)
                                                have n7_ := Aside0.mk (ho)
                                                clear HO_8
                                                clear BK251
                                                clear HO282
                                                clear HO292
                                                clear HO295
                                                clear HO305
                                                clear HB
                                                clear HO309
                                                have HO_8 := n0_
                                                have BK251 := n1_
                                                have HO282 := n2_
                                                have HO292 := n3_
                                                have HO295 := n4_
                                                have HO305 := n5_
                                                have HB := n6_
                                                have HO316 := n7_
                                                clear n0_ n1_ n2_ n3_ n4_ n5_ n6_ n7_
                                                clear ho hb hg hat
                                                refine hK.out _ _ ⟨((HB.out.cell (World.block_lt_of_cell? w _ hw306_0)).trans hw306_0), ((HB.out.cell (World.block_lt_of_cell? w _ hw306_1)).trans hw306_1)⟩ (fun hHeld => ?_)
                                                clear hK K
                                                refine norm_ (a' := ?_) ?_ ?_
                                                rotate_left
                                                · show Act.put _ (some 97) _ = _
                                                  simp only [Act.put, List.setIfInBounds_toArray, List.set_cons_zero, List.set_cons_succ, i64_w, i32_w]
                                                  rfl
                                                refine pure_ (i := 8) (N := some 13) (v := ?_) (a' := ?_) #[true, true, true, true, true, true, true, true, true] rfl rfl (any_of HT_.out (by kernel_rfl)) (fun _ _ _ h => h) (Or.inl ⟨by rfl, ?_⟩) ?_ ?_
                                                rotate_left
                                                · intro w'
                                                  go_simp
                                                  with_reducible rfl
                                                rotate_left
                                                · simp only [Act.put, List.setIfInBounds_toArray, List.set_cons_zero, List.set_cons_succ, i64_w, i32_w]
                                                  rfl
                                                refine done_ (done_of HT_.out (by kernel_rfl)) ?_
                                                try go_wp2
                                                have n0_ := Aside0.mk (Kd.R_drew HO_8.out)
                                                have n1_ := Aside0.mk (Kd.R_drew HO282.out)
                                                have n2_ := Aside0.mk (Kd.R_drew HO292.out)
                                                have n3_ := Aside0.mk (Kd.R_drew HO295.out)
                                                have n4_ := Aside0.mk (Kd.R_drew HO305.out)
                                                have n5_ := Aside0.mk (Kd.R_drew HO316.out)
                                                have n6_ := Aside0.mk (blk_drew BK251.out)
                                                have n7_ := Aside0.mk (below_drew1 HB.out)
                                                clear HO_8
                                                clear HO282
                                                clear HO292
                                                clear HO295
                                                clear HO305
                                                clear HO316
                                                clear BK251
                                                clear HB
                                                have HO_8 := n0_
                                                have HO282 := n1_
                                                have HO292 := n2_
                                                have HO295 := n3_
                                                have HO305 := n4_
                                                have HO316 := n5_
                                                have BK251 := n6_
                                                have HB := n7_
                                                clear n0_ n1_ n2_ n3_ n4_ n5_ n6_ n7_
                                                obtain ⟨Ao99, co99, eo99⟩ := Kd.R_slice HO_8.out
                                                (first | subst eo99 | (injection eo99 with f1_ f2_ f3_; have f4_ := f1_.symm; have f5_ := f3_.symm; clear f1_ f2_ f3_; subst f4_; subst f5_))
                                                refine start_ (n := 35) (S := fun w' => w'.cell? ⟨gb251, 0, none⟩ = some (.int .i64 a1_0) ∧ w'.cell? ⟨gb251, 1, none⟩ = some (.int .i64 a1_1)) (ds := []) #[false, false, false, false, false, false, false, false, false, false, false, false, false, false, false, false, false, false, false, false, false, false, false, false, false, false, false, false, false, false, false, false, false, false, false] (by kernel_rfl) rfl rfl ⟨(blk_cell BK251.out 0).trans rfl, (blk_cell BK251.out 1).trans rfl⟩ (fun hHeld => ?_); refine with_tabW limnerlaw03_GeomTurns.tab14 limnerlaw03_GeomTurns.bits14 (fun HT_ HW_ => ?_)
                                                generalize w97.drew = w98 at HO_8 HO282 HO292 HO295 HO305 HO316 BK251 HB hHeld ⊢
                                                refine pure_ (i := 0) (N := some 98) (v := ?_) (a' := ?_) #[true, false, false, false, false, false, false, false, false, false, false, false, false, false, false, false, false, false, false, false, false, false, false, false, false, false, false, false, false, false, false, false, false, false, false] rfl rfl (any_of HT_.out (by kernel_rfl)) (fun _ _ _ h => h) (Or.inl ⟨by rfl, ?_⟩) ?_ ?_
                                                rotate_left
                                                · intro w'
                                                  go_simp
                                                  with_reducible rfl
                                                rotate_left
                                                · simp only [Act.put, List.setIfInBounds_toArray, List.set_cons_zero, List.set_cons_succ, i64_w, i32_w]
                                                  rfl
                                                refine pure_ (i := 3) (N := some 101) (v := ?_) (a' := ?_) #[true, false, false, true, false, false, false, false, false, false, false, false, false, false, false, false, false, false, false, false, false, false, false, false, false, false, false, false, false, false, false, false, false, false, false] rfl rfl (any_of HT_.out (by kernel_rfl)) (fun _ _ _ h => h) (Or.inl ⟨by rfl, ?_⟩) ?_ ?_
                                                rotate_left
                                                · intro w'
                                                  go_simp
                                                  with_reducible rfl
                                                rotate_left
                                                · simp only [Act.put, List.setIfInBounds_toArray, List.set_cons_zero, List.set_cons_succ, i64_w, i32_w]
                                                  rfl
                                                refine pure_ (i := 4) (N := some 102) (v := ?_) (a' := ?_) #[true, false, false, true, true, false, false, false, false, false, false, false, false, false, false, false, false, false, false, false, false, false, false, false, false, false, false, false, false, false, false, false, false, false, false] rfl rfl (any_of HT_.out (by kernel_rfl)) (fun _ _ _ h => h) (Or.inl ⟨by rfl, ?_⟩) ?_ ?_
                                                rotate_left
                                                · intro w'
                                                  go_simp
                                                  with_reducible rfl
                                                rotate_left
                                                · simp only [Act.put, List.setIfInBounds_toArray, List.set_cons_zero, List.set_cons_succ, i64_w, i32_w]
                                                  rfl
                                                refine take_ (i := 1) (N := some 99) (v := ?_) (a' := ?_) #[true, true, false, true, true, false, false, false, false, false, false, false, false, false, false, false, false, false, false, false, false, false, false, false, false, false, false, false, false, false, false, false, false, false, false] rfl rfl (take_ofW HT_.out HW_.out (by kernel_rfl)) (fun _ _ _ h => h) (Or.inl ⟨by rfl, ?_⟩) hHeld ?_ ?_
                                                rotate_left
                                                · rintro w' ⟨s0, s1⟩
                                                  go_simp
                                                  with_reducible rfl
                                                rotate_left
                                                · simp only [Act.put, List.setIfInBounds_toArray, List.set_cons_zero, List.set_cons_succ, i64_w, i32_w]
                                                  rfl
                                                refine one_ (i := 2) (N := some 100) #[true, true, true, true, true, false, false, false, false, false, false, false, false, false, false, false, false, false, false, false, false, false, false, false, false, false, false, false, false, false, false, false, false, false, false] rfl rfl (one_of HT_.out (by kernel_rfl)) (by decide) (fun K hK => ?_)
                                                refine goes_ Try.func12 (by kernel_rfl) rfl #[.slice Ao99 x8_2.length co99, .agg #[.int .i64 a1_0, .int .i64 a1_1]] (by rfl) rfl rfl (by (try simp only [List.map_toArray, List.map_cons, List.map_nil]); first | done | rfl | (simp only [List.length_drop, List.length_take]; rfl)) ?_
                                                with_reducible refine (geom_Winds.calls k2 _ _ x8_2 a1_0 a1_1 t317 _ ?side1 ?side2 A64.out).mono ?_
                                                (case side1 => repeat (first | exact (Kd.R_reads' HO_8.out).2.2 | (with_reducible refine Kd.C_alloc ?_ _) | (with_reducible refine Kd.C_drewN ?_ _) | (with_reducible refine Kd.C_drew ?_)))
                                                (case side2 => exact (Kd.R_reads' HO_8.out).2.1)
                                                rintro e w100 ⟨rfl, hb⟩
                                                refine ⟨_, rfl, ?_⟩
                                                have n0_ := Aside0.mk (Kd.R_below (by (with_reducible repeat (first | apply Kd.R_alloc | apply Kd.R_drewN | apply Kd.R_drew)); exact HO_8.out) hb)
                                                have n1_ := Aside0.mk (Kd.R_below (by (with_reducible repeat (first | apply Kd.R_alloc | apply Kd.R_drewN | apply Kd.R_drew)); exact HO282.out) hb)
                                                have n2_ := Aside0.mk (Kd.R_below (by (with_reducible repeat (first | apply Kd.R_alloc | apply Kd.R_drewN | apply Kd.R_drew)); exact HO292.out) hb)
                                                have n3_ := Aside0.mk (Kd.R_below (by (with_reducible repeat (first | apply Kd.R_alloc | apply Kd.R_drewN | apply Kd.R_drew)); exact HO295.out) hb)
                                                have n4_ := Aside0.mk (Kd.R_below (by (with_reducible repeat (first | apply Kd.R_alloc | apply Kd.R_drewN | apply Kd.R_drew)); exact HO305.out) hb)
                                                have n5_ := Aside0.mk (Kd.R_below (by (with_reducible repeat (first | apply Kd.R_alloc | apply Kd.R_drewN | apply Kd.R_drew)); exact HO316.out) hb)
                                                have n6_ := Aside0.mk (blk_below (g := gb251) (o := .cells #[.int .i64 a1_0, .int .i64 a1_1] 24 (0, 0)) (by (with_reducible repeat (first | refine blk_drewN ?_ _ | refine blk_drew ?_ | refine blk_alloc ?_ _)); exact BK251.out) hb)
                                                have n7_ := Aside0.mk (below_step (by repeat (first | (with_reducible first | exact HB.out | apply below_alloc | apply pw_below_drewN | apply below_drew1 | refine below_set ?_ GE251.out) | exact HB.out)) hb)
                                                clear HO_8
                                                clear HO282
                                                clear HO292
                                                clear HO295
                                                clear HO305
                                                clear HO316
                                                clear BK251
                                                clear HB
                                                have HO_8 := n0_
                                                have HO282 := n1_
                                                have HO292 := n2_
                                                have HO295 := n3_
                                                have HO305 := n4_
                                                have HO316 := n5_
                                                have BK251 := n6_
                                                have HB := n7_
                                                clear n0_ n1_ n2_ n3_ n4_ n5_ n6_ n7_
                                                (try clear hb)
                                                (try clear hb2)
                                                (try clear hk)
                                                (try clear hi)
                                                obtain ⟨Ao101, co101, eo101⟩ := Kd.R_slice HO282.out
                                                (first | subst eo101 | (injection eo101 with f1_ f2_ f3_; have f4_ := f1_.symm; have f5_ := f3_.symm; clear f1_ f2_ f3_; subst f4_; subst f5_))
                                                refine hK.out _ _ ⟨(blk_cell BK251.out 0).trans rfl, (blk_cell BK251.out 1).trans rfl⟩ (fun hHeld => ?_)
                                                clear hK K
                                                refine norm_ (a' := ?_) ?_ ?_
                                                rotate_left
                                                · show Act.put _ (some 100) _ = _
                                                  simp only [Act.put, List.setIfInBounds_toArray, List.set_cons_zero, List.set_cons_succ, i64_w, i32_w]
                                                  rfl
                                                refine pure_ (i := 5) (N := some 103) (v := ?_) (a' := ?_) #[true, true, true, true, true, true, false, false, false, false, false, false, false, false, false, false, false, false, false, false, false, false, false, false, false, false, false, false, false, false, false, false, false, false, false] rfl rfl (any_of HT_.out (by kernel_rfl)) (fun _ _ _ h => h) (Or.inl ⟨by rfl, ?_⟩) ?_ ?_
                                                rotate_left
                                                · intro w'
                                                  go_simp
                                                  with_reducible rfl
                                                rotate_left
                                                · simp only [Act.put, List.setIfInBounds_toArray, List.set_cons_zero, List.set_cons_succ, i64_w, i32_w]
                                                  rfl
                                                refine pure_ (i := 6) (N := some 104) (v := ?_) (a' := ?_) #[true, true, true, true, true, true, true, false, false, false, false, false, false, false, false, false, false, false, false, false, false, false, false, false, false, false, false, false, false, false, false, false, false, false, false] rfl rfl (any_of HT_.out (by kernel_rfl)) (fun _ _ _ h => h) (Or.inl ⟨by rfl, ?_⟩) ?_ ?_
                                                rotate_left
                                                · intro w'
                                                  go_simp
                                                  with_reducible rfl
                                                rotate_left
                                                · simp only [Act.put, List.setIfInBounds_toArray, List.set_cons_zero, List.set_cons_succ, i64_w, i32_w]
                                                  rfl
                                                refine pure_ (i := 7) (N := some 105) (v := ?_) (a' := ?_) #[true, true, true, true, true, true, true, true, false, false, false, false, false, false, false, false, false, false, false, false, false, false, false, false, false, false, false, false, false, false, false, false, false, false, false] rfl rfl (any_of HT_.out (by kernel_rfl)) (fun _ _ _ h => h) (Or.inl ⟨by rfl, ?_⟩) ?_ ?_
                                                rotate_left
                                                · intro w'
                                                  go_simp
                                                  with_reducible rfl
                                                rotate_left
                                                · simp only [Act.put, List.setIfInBounds_toArray, List.set_cons_zero, List.set_cons_succ, i64_w, i32_w]
                                                  rfl
                                                refine pure_ (i := 10) (N := some 108) (v := ?_) (a' := ?_) #[true, true, true, true, true, true, true, true, false, false, true, false, false, false, false, false, false, false, false, false, false, false, false, false, false, false, false, false, false, false, false, false, false, false, false] rfl rfl (any_of HT_.out (by kernel_rfl)) (fun _ _ _ h => h) (Or.inl ⟨by rfl, ?_⟩) ?_ ?_
                                                rotate_left
                                                · intro w'
                                                  go_simp
                                                  with_reducible rfl
                                                rotate_left
                                                · simp only [Act.put, List.setIfInBounds_toArray, List.set_cons_zero, List.set_cons_succ, i64_w, i32_w]
                                                  rfl
                                                refine take_ (i := 8) (N := some 106) (v := ?_) (a' := ?_) #[true, true, true, true, true, true, true, true, true, false, true, false, false, false, false, false, false, false, false, false, false, false, false, false, false, false, false, false, false, false, false, false, false, false, false] rfl rfl (take_ofW HT_.out HW_.out (by kernel_rfl)) (fun _ _ _ h => h) (Or.inl ⟨by rfl, ?_⟩) hHeld ?_ ?_
                                                rotate_left
                                                · rintro w' ⟨s0, s1⟩
                                                  go_simp
                                                  with_reducible rfl
                                                rotate_left
                                                · simp only [Act.put, List.setIfInBounds_toArray, List.set_cons_zero, List.set_cons_succ, i64_w, i32_w]
                                                  rfl
                                                refine one_ (i := 9) (N := some 107) #[true, true, true, true, true, true, true, true, true, true, true, false, false, false, false, false, false, false, false, false, false, false, false, false, false, false, false, false, false, false, false, false, false, false, false] rfl rfl (one_of HT_.out (by kernel_rfl)) (by decide) (fun K hK => ?_)
                                                refine goes_ Try.func12 (by kernel_rfl) rfl #[.slice Ao101 y280.length co101, .agg #[.int .i64 a1_0, .int .i64 a1_1]] (by rfl) rfl rfl (by (try simp only [List.map_toArray, List.map_cons, List.map_nil]); first | done | rfl | (simp only [List.length_drop, List.length_take]; rfl)) ?_
                                                with_reducible refine (geom_Winds.calls k2 _ _ y280 a1_0 a1_1 t318 _ ?side1 ?side2 A66.out).mono ?_
                                                (case side1 => repeat (first | exact (Kd.R_reads' HO282.out).2.2 | (with_reducible refine Kd.C_alloc ?_ _) | (with_reducible refine Kd.C_drewN ?_ _) | (with_reducible refine Kd.C_drew ?_)))
                                                (case side2 => exact (Kd.R_reads' HO282.out).2.1)
                                                rintro e w102 ⟨rfl, hb⟩
                                                refine ⟨_, rfl, ?_⟩
                                                have n0_ := Aside0.mk (Kd.R_below (by (with_reducible repeat (first | apply Kd.R_alloc | apply Kd.R_drewN | apply Kd.R_drew)); exact HO_8.out) hb)
                                                have n1_ := Aside0.mk (Kd.R_below (by (with_reducible repeat (first | apply Kd.R_alloc | apply Kd.R_drewN | apply Kd.R_drew)); exact HO282.out) hb)
                                                have n2_ := Aside0.mk (Kd.R_below (by (with_reducible repeat (first | apply Kd.R_alloc | apply Kd.R_drewN | apply Kd.R_drew)); exact HO292.out) hb)
                                                have n3_ := Aside0.mk (Kd.R_below (by (with_reducible repeat (first | apply Kd.R_alloc | apply Kd.R_drewN | apply Kd.R_drew)); exact HO295.out) hb)
                                                have n4_ := Aside0.mk (Kd.R_below (by (with_reducible repeat (first | apply Kd.R_alloc | apply Kd.R_drewN | apply Kd.R_drew)); exact HO305.out) hb)
                                                have n5_ := Aside0.mk (Kd.R_below (by (with_reducible repeat (first | apply Kd.R_alloc | apply Kd.R_drewN | apply Kd.R_drew)); exact HO316.out) hb)
                                                have n6_ := Aside0.mk (blk_below (g := gb251) (o := .cells #[.int .i64 a1_0, .int .i64 a1_1] 24 (0, 0)) (by (with_reducible repeat (first | refine blk_drewN ?_ _ | refine blk_drew ?_ | refine blk_alloc ?_ _)); exact BK251.out) hb)
                                                have n7_ := Aside0.mk (below_step (by repeat (first | (with_reducible first | exact HB.out | apply below_alloc | apply pw_below_drewN | apply below_drew1 | refine below_set ?_ GE251.out) | exact HB.out)) hb)
                                                clear HO_8
                                                clear HO282
                                                clear HO292
                                                clear HO295
                                                clear HO305
                                                clear HO316
                                                clear BK251
                                                clear HB
                                                have HO_8 := n0_
                                                have HO282 := n1_
                                                have HO292 := n2_
                                                have HO295 := n3_
                                                have HO305 := n4_
                                                have HO316 := n5_
                                                have BK251 := n6_
                                                have HB := n7_
                                                clear n0_ n1_ n2_ n3_ n4_ n5_ n6_ n7_
                                                (try clear hb)
                                                (try clear hb2)
                                                (try clear hk)
                                                (try clear hi)
                                                obtain ⟨Ao103, co103, eo103⟩ := Kd.R_slice HO295.out
                                                (first | subst eo103 | (injection eo103 with f1_ f2_ f3_; have f4_ := f1_.symm; have f5_ := f3_.symm; clear f1_ f2_ f3_; subst f4_; subst f5_))
                                                refine hK.out _ _ ⟨(blk_cell BK251.out 0).trans rfl, (blk_cell BK251.out 1).trans rfl⟩ (fun hHeld => ?_)
                                                clear hK K
                                                refine norm_ (a' := ?_) ?_ ?_
                                                rotate_left
                                                · show Act.put _ (some 107) _ = _
                                                  simp only [Act.put, List.setIfInBounds_toArray, List.set_cons_zero, List.set_cons_succ, i64_w, i32_w]
                                                  rfl
                                                refine pure_ (i := 11) (N := some 109) (v := ?_) (a' := ?_) #[true, true, true, true, true, true, true, true, true, true, true, true, false, false, false, false, false, false, false, false, false, false, false, false, false, false, false, false, false, false, false, false, false, false, false] rfl rfl (any_of HT_.out (by kernel_rfl)) (fun _ _ _ h => h) (Or.inl ⟨by rfl, ?_⟩) ?_ ?_
                                                rotate_left
                                                · intro w'
                                                  go_simp
                                                  with_reducible rfl
                                                rotate_left
                                                · simp only [Act.put, List.setIfInBounds_toArray, List.set_cons_zero, List.set_cons_succ, i64_w, i32_w]
                                                  rfl
                                                refine pure_ (i := 12) (N := some 110) (v := ?_) (a' := ?_) #[true, true, true, true, true, true, true, true, true, true, true, true, true, false, false, false, false, false, false, false, false, false, false, false, false, false, false, false, false, false, false, false, false, false, false] rfl rfl (any_of HT_.out (by kernel_rfl)) (fun _ _ _ h => h) (Or.inl ⟨by rfl, ?_⟩) ?_ ?_
                                                rotate_left
                                                · intro w'
                                                  go_simp
                                                  with_reducible rfl
                                                rotate_left
                                                · simp only [Act.put, List.setIfInBounds_toArray, List.set_cons_zero, List.set_cons_succ, i64_w, i32_w]
                                                  rfl
                                                refine pure_ (i := 13) (N := some 111) (v := ?_) (a' := ?_) #[true, true, true, true, true, true, true, true, true, true, true, true, true, true, false, false, false, false, false, false, false, false, false, false, false, false, false, false, false, false, false, false, false, false, false] rfl rfl (any_of HT_.out (by kernel_rfl)) (fun _ _ _ h => h) (Or.inl ⟨by rfl, ?_⟩) ?_ ?_
                                                rotate_left
                                                · intro w'
                                                  go_simp
                                                  with_reducible rfl
                                                rotate_left
                                                · simp only [Act.put, List.setIfInBounds_toArray, List.set_cons_zero, List.set_cons_succ, i64_w, i32_w]
                                                  rfl
                                                refine pure_ (i := 14) (N := some 112) (v := ?_) (a' := ?_) #[true, true, true, true, true, true, true, true, true, true, true, true, true, true, true, false, false, false, false, false, false, false, false, false, false, false, false, false, false, false, false, false, false, false, false] rfl rfl (any_of HT_.out (by kernel_rfl)) (fun _ _ _ h => h) (Or.inl ⟨by rfl, ?_⟩) ?_ ?_
                                                rotate_left
                                                · intro w'
                                                  go_simp
                                                  with_reducible rfl
                                                rotate_left
                                                · simp only [Act.put, List.setIfInBounds_toArray, List.set_cons_zero, List.set_cons_succ, i64_w, i32_w]
                                                  rfl
                                                refine pure_ (i := 17) (N := some 115) (v := ?_) (a' := ?_) #[true, true, true, true, true, true, true, true, true, true, true, true, true, true, true, false, false, true, false, false, false, false, false, false, false, false, false, false, false, false, false, false, false, false, false] rfl rfl (any_of HT_.out (by kernel_rfl)) (fun _ _ _ h => h) (Or.inl ⟨by rfl, ?_⟩) ?_ ?_
                                                rotate_left
                                                · intro w'
                                                  go_simp
                                                  with_reducible rfl
                                                rotate_left
                                                · simp only [Act.put, List.setIfInBounds_toArray, List.set_cons_zero, List.set_cons_succ, i64_w, i32_w]
                                                  rfl
                                                refine take_ (i := 15) (N := some 113) (v := ?_) (a' := ?_) #[true, true, true, true, true, true, true, true, true, true, true, true, true, true, true, true, false, true, false, false, false, false, false, false, false, false, false, false, false, false, false, false, false, false, false] rfl rfl (take_ofW HT_.out HW_.out (by kernel_rfl)) (fun _ _ _ h => h) (Or.inl ⟨by rfl, ?_⟩) hHeld ?_ ?_
                                                rotate_left
                                                · rintro w' ⟨s0, s1⟩
                                                  go_simp
                                                  with_reducible rfl
                                                rotate_left
                                                · simp only [Act.put, List.setIfInBounds_toArray, List.set_cons_zero, List.set_cons_succ, i64_w, i32_w]
                                                  rfl
                                                refine one_ (i := 16) (N := some 114) #[true, true, true, true, true, true, true, true, true, true, true, true, true, true, true, true, true, true, false, false, false, false, false, false, false, false, false, false, false, false, false, false, false, false, false] rfl rfl (one_of HT_.out (by kernel_rfl)) (by decide) (fun K hK => ?_)
                                                refine goes_ Try.func12 (by kernel_rfl) rfl #[.slice Ao103 y293.length co103, .agg #[.int .i64 a1_0, .int .i64 a1_1]] (by rfl) rfl rfl (by (try simp only [List.map_toArray, List.map_cons, List.map_nil]); first | done | rfl | (simp only [List.length_drop, List.length_take]; rfl)) ?_
                                                with_reducible refine (geom_Winds.calls k2 _ _ y293 a1_0 a1_1 t319 _ ?side1 ?side2 A68.out).mono ?_
                                                (case side1 => repeat (first | exact (Kd.R_reads' HO295.out).2.2 | (with_reducible refine Kd.C_alloc ?_ _) | (with_reducible refine Kd.C_drewN ?_ _) | (with_reducible refine Kd.C_drew ?_)))
                                                (case side2 => exact (Kd.R_reads' HO295.out).2.1)
                                                rintro e w104 ⟨rfl, hb⟩
                                                refine ⟨_, rfl, ?_⟩
                                                have n0_ := Aside0.mk (Kd.R_below (by (with_reducible repeat (first | apply Kd.R_alloc | apply Kd.R_drewN | apply Kd.R_drew)); exact HO_8.out) hb)
                                                have n1_ := Aside0.mk (Kd.R_below (by (with_reducible repeat (first | apply Kd.R_alloc | apply Kd.R_drewN | apply Kd.R_drew)); exact HO282.out) hb)
                                                have n2_ := Aside0.mk (Kd.R_below (by (with_reducible repeat (first | apply Kd.R_alloc | apply Kd.R_drewN | apply Kd.R_drew)); exact HO292.out) hb)
                                                have n3_ := Aside0.mk (Kd.R_below (by (with_reducible repeat (first | apply Kd.R_alloc | apply Kd.R_drewN | apply Kd.R_drew)); exact HO295.out) hb)
                                                have n4_ := Aside0.mk (Kd.R_below (by (with_reducible repeat (first | apply Kd.R_alloc | apply Kd.R_drewN | apply Kd.R_drew)); exact HO305.out) hb)
                                                have n5_ := Aside0.mk (Kd.R_below (by (with_reducible repeat (first | apply Kd.R_alloc | apply Kd.R_drewN | apply Kd.R_drew)); exact HO316.out) hb)
                                                have n6_ := Aside0.mk (blk_below (g := gb251) (o := .cells #[.int .i64 a1_0, .int .i64 a1_1] 24 (0, 0)) (by (with_reducible repeat (first | refine blk_drewN ?_ _ | refine blk_drew ?_ | refine blk_alloc ?_ _)); exact BK251.out) hb)
                                                have n7_ := Aside0.mk (below_step (by repeat (first | (with_reducible first | exact HB.out | apply below_alloc | apply pw_below_drewN | apply below_drew1 | refine below_set ?_ GE251.out) | exact HB.out)) hb)
                                                clear HO_8
                                                clear HO282
                                                clear HO292
                                                clear HO295
                                                clear HO305
                                                clear HO316
                                                clear BK251
                                                clear HB
                                                have HO_8 := n0_
                                                have HO282 := n1_
                                                have HO292 := n2_
                                                have HO295 := n3_
                                                have HO305 := n4_
                                                have HO316 := n5_
                                                have BK251 := n6_
                                                have HB := n7_
                                                clear n0_ n1_ n2_ n3_ n4_ n5_ n6_ n7_
                                                (try clear hb)
                                                (try clear hb2)
                                                (try clear hk)
                                                (try clear hi)
                                                obtain ⟨Ao105, co105, eo105⟩ := Kd.R_slice HO305.out
                                                (first | subst eo105 | (injection eo105 with f1_ f2_ f3_; have f4_ := f1_.symm; have f5_ := f3_.symm; clear f1_ f2_ f3_; subst f4_; subst f5_))
                                                refine hK.out _ _ ⟨(blk_cell BK251.out 0).trans rfl, (blk_cell BK251.out 1).trans rfl⟩ (fun hHeld => ?_)
                                                clear hK K
                                                refine norm_ (a' := ?_) ?_ ?_
                                                rotate_left
                                                · show Act.put _ (some 114) _ = _
                                                  simp only [Act.put, List.setIfInBounds_toArray, List.set_cons_zero, List.set_cons_succ, i64_w, i32_w]
                                                  rfl
                                                refine pure_ (i := 18) (N := some 116) (v := ?_) (a' := ?_) #[true, true, true, true, true, true, true, true, true, true, true, true, true, true, true, true, true, true, true, false, false, false, false, false, false, false, false, false, false, false, false, false, false, false, false] rfl rfl (any_of HT_.out (by kernel_rfl)) (fun _ _ _ h => h) (Or.inl ⟨by rfl, ?_⟩) ?_ ?_
                                                rotate_left
                                                · intro w'
                                                  go_simp
                                                  with_reducible rfl
                                                rotate_left
                                                · simp only [Act.put, List.setIfInBounds_toArray, List.set_cons_zero, List.set_cons_succ, i64_w, i32_w]
                                                  rfl
                                                refine pure_ (i := 19) (N := some 117) (v := ?_) (a' := ?_) #[true, true, true, true, true, true, true, true, true, true, true, true, true, true, true, true, true, true, true, true, false, false, false, false, false, false, false, false, false, false, false, false, false, false, false] rfl rfl (any_of HT_.out (by kernel_rfl)) (fun _ _ _ h => h) (Or.inl ⟨by rfl, ?_⟩) ?_ ?_
                                                rotate_left
                                                · intro w'
                                                  go_simp
                                                  with_reducible rfl
                                                rotate_left
                                                · simp only [Act.put, List.setIfInBounds_toArray, List.set_cons_zero, List.set_cons_succ, i64_w, i32_w]
                                                  rfl
                                                refine pure_ (i := 20) (N := some 118) (v := ?_) (a' := ?_) #[true, true, true, true, true, true, true, true, true, true, true, true, true, true, true, true, true, true, true, true, true, false, false, false, false, false, false, false, false, false, false, false, false, false, false] rfl rfl (any_of HT_.out (by kernel_rfl)) (fun _ _ _ h => h) (Or.inl ⟨by rfl, ?_⟩) ?_ ?_
                                                rotate_left
                                                · intro w'
                                                  go_simp
                                                  with_reducible rfl
                                                rotate_left
                                                · simp only [Act.put, List.setIfInBounds_toArray, List.set_cons_zero, List.set_cons_succ, i64_w, i32_w]
                                                  rfl
                                                refine pure_ (i := 21) (N := some 119) (v := ?_) (a' := ?_) #[true, true, true, true, true, true, true, true, true, true, true, true, true, true, true, true, true, true, true, true, true, true, false, false, false, false, false, false, false, false, false, false, false, false, false] rfl rfl (any_of HT_.out (by kernel_rfl)) (fun _ _ _ h => h) (Or.inl ⟨by rfl, ?_⟩) ?_ ?_
                                                rotate_left
                                                · intro w'
                                                  go_simp
                                                  with_reducible rfl
                                                rotate_left
                                                · simp only [Act.put, List.setIfInBounds_toArray, List.set_cons_zero, List.set_cons_succ, i64_w, i32_w]
                                                  rfl
                                                refine pure_ (i := 24) (N := some 122) (v := ?_) (a' := ?_) #[true, true, true, true, true, true, true, true, true, true, true, true, true, true, true, true, true, true, true, true, true, true, false, false, true, false, false, false, false, false, false, false, false, false, false] rfl rfl (any_of HT_.out (by kernel_rfl)) (fun _ _ _ h => h) (Or.inl ⟨by rfl, ?_⟩) ?_ ?_
                                                rotate_left
                                                · intro w'
                                                  go_simp
                                                  with_reducible rfl
                                                rotate_left
                                                · simp only [Act.put, List.setIfInBounds_toArray, List.set_cons_zero, List.set_cons_succ, i64_w, i32_w]
                                                  rfl
                                                refine pure_ (i := 28) (N := some 126) (v := ?_) (a' := ?_) #[true, true, true, true, true, true, true, true, true, true, true, true, true, true, true, true, true, true, true, true, true, true, false, false, true, false, false, false, true, false, false, false, false, false, false] rfl rfl (any_of HT_.out (by kernel_rfl)) (fun _ _ _ h => h) (Or.inl ⟨by rfl, ?_⟩) ?_ ?_
                                                rotate_left
                                                · intro w'
                                                  go_simp
                                                  with_reducible rfl
                                                rotate_left
                                                · simp only [Act.put, List.setIfInBounds_toArray, List.set_cons_zero, List.set_cons_succ, i64_w, i32_w]
                                                  rfl
                                                refine take_ (i := 22) (N := some 120) (v := ?_) (a' := ?_) #[true, true, true, true, true, true, true, true, true, true, true, true, true, true, true, true, true, true, true, true, true, true, true, false, true, false, false, false, true, false, false, false, false, false, false] rfl rfl (take_ofW HT_.out HW_.out (by kernel_rfl)) (fun _ _ _ h => h) (Or.inl ⟨by rfl, ?_⟩) hHeld ?_ ?_
                                                rotate_left
                                                · rintro w' ⟨s0, s1⟩
                                                  go_simp
                                                  with_reducible rfl
                                                rotate_left
                                                · simp only [Act.put, List.setIfInBounds_toArray, List.set_cons_zero, List.set_cons_succ, i64_w, i32_w]
                                                  rfl
                                                refine take_ (i := 25) (N := some 123) (v := ?_) (a' := ?_) #[true, true, true, true, true, true, true, true, true, true, true, true, true, true, true, true, true, true, true, true, true, true, true, false, true, true, false, false, true, false, false, false, false, false, false] rfl rfl (take_ofW HT_.out HW_.out (by kernel_rfl)) (fun _ _ _ h => h) (Or.inl ⟨by rfl, ?_⟩) hHeld ?_ ?_
                                                rotate_left
                                                · rintro w' ⟨s0, s1⟩
                                                  go_simp
                                                  with_reducible rfl
                                                rotate_left
                                                · simp only [Act.put, List.setIfInBounds_toArray, List.set_cons_zero, List.set_cons_succ, i64_w, i32_w]
                                                  rfl
                                                refine one_ (i := 23) (N := some 121) #[true, true, true, true, true, true, true, true, true, true, true, true, true, true, true, true, true, true, true, true, true, true, true, true, true, true, false, false, true, false, false, false, false, false, false] rfl rfl (one_of HT_.out (by kernel_rfl)) (by decide) (fun K hK => ?_)
                                                refine goes_ Try.func12 (by kernel_rfl) rfl #[.slice Ao105 y303.length co105, .agg #[.int .i64 a1_0, .int .i64 a1_1]] (by rfl) rfl rfl (by (try simp only [List.map_toArray, List.map_cons, List.map_nil]); first | done | rfl | (simp only [List.length_drop, List.length_take]; rfl)) ?_
                                                with_reducible refine (geom_Winds.calls k2 _ _ y303 a1_0 a1_1 t320 _ ?side1 ?side2 A70.out).mono ?_
                                                (case side1 => repeat (first | exact (Kd.R_reads' HO305.out).2.2 | (with_reducible refine Kd.C_alloc ?_ _) | (with_reducible refine Kd.C_drewN ?_ _) | (with_reducible refine Kd.C_drew ?_)))
                                                (case side2 => exact (Kd.R_reads' HO305.out).2.1)
                                                rintro e w106 ⟨rfl, hb⟩
                                                refine ⟨_, rfl, ?_⟩
                                                have n0_ := Aside0.mk (Kd.R_below (by (with_reducible repeat (first | apply Kd.R_alloc | apply Kd.R_drewN | apply Kd.R_drew)); exact HO_8.out) hb)
                                                have n1_ := Aside0.mk (Kd.R_below (by (with_reducible repeat (first | apply Kd.R_alloc | apply Kd.R_drewN | apply Kd.R_drew)); exact HO282.out) hb)
                                                have n2_ := Aside0.mk (Kd.R_below (by (with_reducible repeat (first | apply Kd.R_alloc | apply Kd.R_drewN | apply Kd.R_drew)); exact HO292.out) hb)
                                                have n3_ := Aside0.mk (Kd.R_below (by (with_reducible repeat (first | apply Kd.R_alloc | apply Kd.R_drewN | apply Kd.R_drew)); exact HO295.out) hb)
                                                have n4_ := Aside0.mk (Kd.R_below (by (with_reducible repeat (first | apply Kd.R_alloc | apply Kd.R_drewN | apply Kd.R_drew)); exact HO305.out) hb)
                                                have n5_ := Aside0.mk (Kd.R_below (by (with_reducible repeat (first | apply Kd.R_alloc | apply Kd.R_drewN | apply Kd.R_drew)); exact HO316.out) hb)
                                                have n6_ := Aside0.mk (blk_below (g := gb251) (o := .cells #[.int .i64 a1_0, .int .i64 a1_1] 24 (0, 0)) (by (with_reducible repeat (first | refine blk_drewN ?_ _ | refine blk_drew ?_ | refine blk_alloc ?_ _)); exact BK251.out) hb)
                                                have n7_ := Aside0.mk (below_step (by repeat (first | (with_reducible first | exact HB.out | apply below_alloc | apply pw_below_drewN | apply below_drew1 | refine below_set ?_ GE251.out) | exact HB.out)) hb)
                                                clear HO_8
                                                clear HO282
                                                clear HO292
                                                clear HO295
                                                clear HO305
                                                clear HO316
                                                clear BK251
                                                clear HB
                                                have HO_8 := n0_
                                                have HO282 := n1_
                                                have HO292 := n2_
                                                have HO295 := n3_
                                                have HO305 := n4_
                                                have HO316 := n5_
                                                have BK251 := n6_
                                                have HB := n7_
                                                clear n0_ n1_ n2_ n3_ n4_ n5_ n6_ n7_
                                                (try clear hb)
                                                (try clear hb2)
                                                (try clear hk)
                                                (try clear hi)
                                                obtain ⟨Ao107, co107, eo107⟩ := Kd.R_slice HO316.out
                                                (first | subst eo107 | (injection eo107 with f1_ f2_ f3_; have f4_ := f1_.symm; have f5_ := f3_.symm; clear f1_ f2_ f3_; subst f4_; subst f5_))
                                                refine hK.out _ _ ⟨(blk_cell BK251.out 0).trans rfl, (blk_cell BK251.out 1).trans rfl⟩ (fun hHeld => ?_)
                                                clear hK K
                                                refine norm_ (a' := ?_) ?_ ?_
                                                rotate_left
                                                · show Act.put _ (some 121) _ = _
                                                  simp only [Act.put, List.setIfInBounds_toArray, List.set_cons_zero, List.set_cons_succ, i64_w, i32_w]
                                                  rfl
                                                refine one_ (i := 26) (N := some 124) #[true, true, true, true, true, true, true, true, true, true, true, true, true, true, true, true, true, true, true, true, true, true, true, true, true, true, true, false, true, false, false, false, false, false, false] rfl rfl (one_of HT_.out (by kernel_rfl)) (by decide) (fun K hK => ?_)
                                                refine goes_ Try.func12 (by kernel_rfl) rfl #[.slice Ao107 y314.length co107, .agg #[.int .i64 a1_0, .int .i64 a1_1]] (by rfl) rfl rfl (by (try simp only [List.map_toArray, List.map_cons, List.map_nil]); first | done | rfl | (simp only [List.length_drop, List.length_take]; rfl)) ?_
                                                with_reducible refine (geom_Winds.calls k2 _ _ y314 a1_0 a1_1 t321 _ ?side1 ?side2 A71.out).mono ?_
                                                (case side1 => repeat (first | exact (Kd.R_reads' HO316.out).2.2 | (with_reducible refine Kd.C_alloc ?_ _) | (with_reducible refine Kd.C_drewN ?_ _) | (with_reducible refine Kd.C_drew ?_)))
                                                (case side2 => exact (Kd.R_reads' HO316.out).2.1)
                                                rintro e w108 ⟨rfl, hb⟩
                                                refine ⟨_, rfl, ?_⟩
                                                have n0_ := Aside0.mk (Kd.R_below (by (with_reducible repeat (first | apply Kd.R_alloc | apply Kd.R_drewN | apply Kd.R_drew)); exact HO_8.out) hb)
                                                have n1_ := Aside0.mk (Kd.R_below (by (with_reducible repeat (first | apply Kd.R_alloc | apply Kd.R_drewN | apply Kd.R_drew)); exact HO282.out) hb)
                                                have n2_ := Aside0.mk (Kd.R_below (by (with_reducible repeat (first | apply Kd.R_alloc | apply Kd.R_drewN | apply Kd.R_drew)); exact HO292.out) hb)
                                                have n3_ := Aside0.mk (Kd.R_below (by (with_reducible repeat (first | apply Kd.R_alloc | apply Kd.R_drewN | apply Kd.R_drew)); exact HO295.out) hb)
                                                have n4_ := Aside0.mk (Kd.R_below (by (with_reducible repeat (first | apply Kd.R_alloc | apply Kd.R_drewN | apply Kd.R_drew)); exact HO305.out) hb)
                                                have n5_ := Aside0.mk (Kd.R_below (by (with_reducible repeat (first | apply Kd.R_alloc | apply Kd.R_drewN | apply Kd.R_drew)); exact HO316.out) hb)
                                                have n6_ := Aside0.mk (blk_below (g := gb251) (o := .cells #[.int .i64 a1_0, .int .i64 a1_1] 24 (0, 0)) (by (with_reducible repeat (first | refine blk_drewN ?_ _ | refine blk_drew ?_ | refine blk_alloc ?_ _)); exact BK251.out) hb)
                                                have n7_ := Aside0.mk (below_step (by repeat (first | (with_reducible first | exact HB.out | apply below_alloc | apply pw_below_drewN | apply below_drew1 | refine below_set ?_ GE251.out) | exact HB.out)) hb)
                                                clear HO_8
                                                clear HO282
                                                clear HO292
                                                clear HO295
                                                clear HO305
                                                clear HO316
                                                clear BK251
                                                clear HB
                                                have HO_8 := n0_
                                                have HO282 := n1_
                                                have HO292 := n2_
                                                have HO295 := n3_
                                                have HO305 := n4_
                                                have HO316 := n5_
                                                have BK251 := n6_
                                                have HB := n7_
                                                clear n0_ n1_ n2_ n3_ n4_ n5_ n6_ n7_
                                                (try clear hb)
                                                (try clear hb2)
                                                (try clear hk)
                                                (try clear hi)
                                                refine hK.out _ _ ⟨(blk_cell BK251.out 0).trans rfl, (blk_cell BK251.out 1).trans rfl⟩ (fun hHeld => ?_)
                                                clear hK K
                                                refine norm_ (a' := ?_) ?_ ?_
                                                rotate_left
                                                · show Act.put _ (some 124) _ = _
                                                  simp only [Act.put, List.setIfInBounds_toArray, List.set_cons_zero, List.set_cons_succ, i64_w, i32_w]
                                                  rfl
                                                refine pure_ (i := 27) (N := some 125) (v := ?_) (a' := ?_) #[true, true, true, true, true, true, true, true, true, true, true, true, true, true, true, true, true, true, true, true, true, true, true, true, true, true, true, true, true, false, false, false, false, false, false] rfl rfl (any_of HT_.out (by kernel_rfl)) (fun _ _ _ h => h) (Or.inl ⟨by rfl, ?_⟩) ?_ ?_
                                                rotate_left
                                                · intro w'
                                                  go_simp
                                                  with_reducible rfl
                                                rotate_left
                                                · simp only [Act.put, List.setIfInBounds_toArray, List.set_cons_zero, List.set_cons_succ, i64_w, i32_w]
                                                  rfl
                                                refine pure_ (i := 29) (N := some 127) (v := ?_) (a' := ?_) #[true, true, true, true, true, true, true, true, true, true, true, true, true, true, true, true, true, true, true, true, true, true, true, true, true, true, true, true, true, true, false, false, false, false, false] rfl rfl (any_of HT_.out (by kernel_rfl)) (fun _ _ _ h => h) (Or.inl ⟨by rfl, ?_⟩) ?_ ?_
                                                rotate_left
                                                · intro w'
                                                  go_simp
                                                  with_reducible rfl
                                                rotate_left
                                                · simp only [Act.put, List.setIfInBounds_toArray, List.set_cons_zero, List.set_cons_succ, i64_w, i32_w]
                                                  rfl
                                                refine pure_ (i := 30) (N := some 128) (v := ?_) (a' := ?_) #[true, true, true, true, true, true, true, true, true, true, true, true, true, true, true, true, true, true, true, true, true, true, true, true, true, true, true, true, true, true, true, false, false, false, false] rfl rfl (any_of HT_.out (by kernel_rfl)) (fun _ _ _ h => h) (Or.inl ⟨by rfl, ?_⟩) ?_ ?_
                                                rotate_left
                                                · intro w'
                                                  go_simp
                                                  with_reducible rfl
                                                rotate_left
                                                · simp only [Act.put, List.setIfInBounds_toArray, List.set_cons_zero, List.set_cons_succ, i64_w, i32_w]
                                                  rfl
                                                refine pure_ (i := 31) (N := some 129) (v := ?_) (a' := ?_) #[true, true, true, true, true, true, true, true, true, true, true, true, true, true, true, true, true, true, true, true, true, true, true, true, true, true, true, true, true, true, true, true, false, false, false] rfl rfl (any_of HT_.out (by kernel_rfl)) (fun _ _ _ h => h) (Or.inl ⟨by rfl, ?_⟩) ?_ ?_
                                                rotate_left
                                                · intro w'
                                                  go_simp
                                                  with_reducible rfl
                                                rotate_left
                                                · simp only [Act.put, List.setIfInBounds_toArray, List.set_cons_zero, List.set_cons_succ, i64_w, i32_w]
                                                  rfl
                                                refine one_ (i := 32) (N := some 130) #[true, true, true, true, true, true, true, true, true, true, true, true, true, true, true, true, true, true, true, true, true, true, true, true, true, true, true, true, true, true, true, true, true, false, false] rfl rfl (one_of HT_.out (by kernel_rfl)) (by decide) (fun K hK => ?_)
                                                refine goes_ Try.func10 (by kernel_rfl) rfl #[] (by rfl) rfl rfl (by (try simp only [List.map_toArray, List.map_cons, List.map_nil]); first | done | rfl | (simp only [List.length_drop, List.length_take]; rfl)) ?_
                                                with_reducible refine (limnerlaw03_awake.calls k2  t322 _ A73.out).mono ?_
                                                rintro e w109 ⟨rfl, hb⟩
                                                refine ⟨_, rfl, ?_⟩
                                                have n0_ := Aside0.mk (Kd.R_below (by (with_reducible repeat (first | apply Kd.R_alloc | apply Kd.R_drewN | apply Kd.R_drew)); exact HO_8.out) hb)
                                                have n1_ := Aside0.mk (Kd.R_below (by (with_reducible repeat (first | apply Kd.R_alloc | apply Kd.R_drewN | apply Kd.R_drew)); exact HO282.out) hb)
                                                have n2_ := Aside0.mk (Kd.R_below (by (with_reducible repeat (first | apply Kd.R_alloc | apply Kd.R_drewN | apply Kd.R_drew)); exact HO292.out) hb)
                                                have n3_ := Aside0.mk (Kd.R_below (by (with_reducible repeat (first | apply Kd.R_alloc | apply Kd.R_drewN | apply Kd.R_drew)); exact HO295.out) hb)
                                                have n4_ := Aside0.mk (Kd.R_below (by (with_reducible repeat (first | apply Kd.R_alloc | apply Kd.R_drewN | apply Kd.R_drew)); exact HO305.out) hb)
                                                have n5_ := Aside0.mk (Kd.R_below (by (with_reducible repeat (first | apply Kd.R_alloc | apply Kd.R_drewN | apply Kd.R_drew)); exact HO316.out) hb)
                                                have n6_ := Aside0.mk (blk_below (g := gb251) (o := .cells #[.int .i64 a1_0, .int .i64 a1_1] 24 (0, 0)) (by (with_reducible repeat (first | refine blk_drewN ?_ _ | refine blk_drew ?_ | refine blk_alloc ?_ _)); exact BK251.out) hb)
                                                have n7_ := Aside0.mk (below_step (by repeat (first | (with_reducible first | exact HB.out | apply below_alloc | apply pw_below_drewN | apply below_drew1 | refine below_set ?_ GE251.out) | exact HB.out)) hb)
                                                clear HO_8
                                                clear HO282
                                                clear HO292
                                                clear HO295
                                                clear HO305
                                                clear HO316
                                                clear BK251
                                                clear HB
                                                have HO_8 := n0_
                                                have HO282 := n1_
                                                have HO292 := n2_
                                                have HO295 := n3_
                                                have HO305 := n4_
                                                have HO316 := n5_
                                                have BK251 := n6_
                                                have HB := n7_
                                                clear n0_ n1_ n2_ n3_ n4_ n5_ n6_ n7_
                                                (try clear hb)
                                                (try clear hb2)
                                                (try clear hk)
                                                (try clear hi)
                                                refine hK.out _ _ ⟨(blk_cell BK251.out 0).trans rfl, (blk_cell BK251.out 1).trans rfl⟩ (fun hHeld => ?_)
                                                clear hK K
                                                refine norm_ (a' := ?_) ?_ ?_
                                                rotate_left
                                                · show Act.put _ (some 130) _ = _
                                                  simp only [Act.put, List.setIfInBounds_toArray, List.set_cons_zero, List.set_cons_succ, i64_w, i32_w]
                                                  rfl
                                                refine pure_ (i := 33) (N := some 131) (v := ?_) (a' := ?_) #[true, true, true, true, true, true, true, true, true, true, true, true, true, true, true, true, true, true, true, true, true, true, true, true, true, true, true, true, true, true, true, true, true, true, false] rfl rfl (any_of HT_.out (by kernel_rfl)) (fun _ _ _ h => h) (Or.inl ⟨by rfl, ?_⟩) ?_ ?_
                                                rotate_left
                                                · intro w'
                                                  go_simp
                                                  with_reducible rfl
                                                rotate_left
                                                · simp only [Act.put, List.setIfInBounds_toArray, List.set_cons_zero, List.set_cons_succ, i64_w, i32_w]
                                                  rfl
                                                refine pure_ (i := 34) (N := some 6) (v := ?_) (a' := ?_) #[true, true, true, true, true, true, true, true, true, true, true, true, true, true, true, true, true, true, true, true, true, true, true, true, true, true, true, true, true, true, true, true, true, true, true] rfl rfl (any_of HT_.out (by kernel_rfl)) (fun _ _ _ h => h) (Or.inl ⟨by rfl, ?_⟩) ?_ ?_
                                                rotate_left
                                                · intro w'
                                                  go_simp
                                                  with_reducible rfl
                                                rotate_left
                                                · simp only [Act.put, List.setIfInBounds_toArray, List.set_cons_zero, List.set_cons_succ, i64_w, i32_w]
                                                  rfl
                                                refine done_ (done_of HT_.out (by kernel_rfl)) ?_
                                                try go_wp2
                                                go_ret
                                                exact ⟨by first | rfl | (simp [errW_none, errW_some] <;> rfl) | (simp only [← hji54, ← hji58]; first | rfl | (simp [errW_none, errW_some] <;> rfl)) | (simp [*, errW_none, errW_some] <;> rfl), by repeat (first | (with_reducible first | exact HB.out | apply below_alloc | apply pw_below_drewN | apply below_drew1 | refine below_set ?_ GE251.out) | exact HB.out)⟩
                                              · rw [if_neg c72] at H
                                                have c72b0 : ((wrap64 (t320 + t321)) == t258) = false := beq_eq_false_iff_ne.mpr c72
                                                have c72b1 : ((wrap64 (t320 + t321)) != t258) = true := bne_iff_ne.mpr c72
                                                exact absurd H (by simp)
                                            · rw [if_neg c69] at H
                                              have c69b0 : (t319 == t258) = false := beq_eq_false_iff_ne.mpr c69
                                              have c69b1 : (t319 != t258) = true := bne_iff_ne.mpr c69
                                              exact absurd H (by simp)
                                          · rw [if_neg c67] at H
                                            have c67b0 : (t318 == t258) = false := beq_eq_false_iff_ne.mpr c67
                                            have c67b1 : (t318 != t258) = true := bne_iff_ne.mpr c67
                                            exact absurd H (by simp)
                                        · rw [if_neg c65] at H
                                          have c65b0 : (t317 == (wrap64 (-t258))) = false := beq_eq_false_iff_ne.mpr c65
                                          have c65b1 : (t317 != (wrap64 (-t258))) = true := bne_iff_ne.mpr c65
                                          exact absurd H (by simp)
                                      · rw [if_neg c63] at H
                                        exact absurd H (by simp)
                                    · rw [if_neg c62] at H
                                      exact absurd H (by simp)
                                  · rw [if_neg c61] at H
                                    exact absurd H (by simp)
                                · rw [if_neg c60] at H
                                  exact absurd H (by simp)
                              · rw [if_neg c59] at H
                                exact absurd H (by simp)
                            · rw [if_neg c57] at H
                              exact absurd H (by simp)
                          · rw [if_neg c56] at H
                            exact absurd H (by simp)
                        · rw [if_neg c55] at H
                          exact absurd H (by simp)
                      · rw [if_neg c53] at H
                        exact absurd H (by simp)
                    · rw [if_neg c52] at H
                      exact absurd H (by simp)
                  · rw [if_neg c49] at H
                    exact absurd H (by simp)
                · rw [if_neg c48] at H
                  exact absurd H (by simp)
              · rw [if_neg c47] at H
                exact absurd H (by simp)

/-- THE ONE PURE STATEMENT of limnerlaw03_GeomTurns. -/
def limnerlaw03_GeomTurns.Pure : Prop := ∀ (l0 : List (S24)) (a1_0 : Int) (a1_1 : Int) (a2 : Int), (l0.length ≤ maxLen ∧ ∀ x_ : S24, x_ ∈ l0 → ((-9223372036854775808 ≤ x_.f0 ∧ x_.f0 ≤ 9223372036854775807) ∧ (-9223372036854775808 ≤ x_.f1 ∧ x_.f1 ≤ 9223372036854775807))) → ((-9223372036854775808 ≤ a1_0 ∧ a1_0 ≤ 9223372036854775807) ∧ (-9223372036854775808 ≤ a1_1 ∧ a1_1 ≤ 9223372036854775807)) → (-9223372036854775808 ≤ a2 ∧ a2 ≤ 9223372036854775807) → ∃ k, limnerlaw03_GeomTurns.f k l0 a1_0 a1_1 a2 = some true
theorem limnerlaw03_GeomTurns.walk (P : limnerlaw03_GeomTurns.Pure) (A0 : Option Addr) (c0 : Nat) (l0 : List (S24)) (a1_0 : Int) (a1_1 : Int) (a2 : Int) (w : World) (hr0 : Kd.C k24 w A0 l0.length l0) (hc0 : l0.length ≤ c0) (y0 : (l0.length ≤ maxLen ∧ ∀ x_ : S24, x_ ∈ l0 → ((-9223372036854775808 ≤ x_.f0 ∧ x_.f0 ≤ 9223372036854775807) ∧ (-9223372036854775808 ≤ x_.f1 ∧ x_.f1 ≤ 9223372036854775807)))) (y1 : ((-9223372036854775808 ≤ a1_0 ∧ a1_0 ≤ 9223372036854775807) ∧ (-9223372036854775808 ≤ a1_1 ∧ a1_1 ≤ 9223372036854775807))) (y2 : (-9223372036854775808 ≤ a2 ∧ a2 ≤ 9223372036854775807)) :
    Calls Try.prog 4 #[.slice A0 l0.length c0, .agg #[.int .i64 a1_0, .int .i64 a1_1], .int .i64 a2] w fun e w' => e = .returned (.bool true) ∧ Below w.heap.size w w' := by
  obtain ⟨k, h⟩ := P l0 a1_0 a1_1 a2 y0 y1 y2
  refine (limnerlaw03_GeomTurns.calls k A0 c0 l0 a1_0 a1_1 a2 true w hr0 hc0 h).mono ?_
  rintro e w' ⟨rfl, hd⟩
  exact ⟨rfl, hd⟩

end Go.Proofs.Ytfhjndnempmcaaa.X
