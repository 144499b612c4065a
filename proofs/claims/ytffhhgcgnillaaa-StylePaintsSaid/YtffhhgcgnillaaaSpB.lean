/- Places of shades walked: along a line, from a point outward. Conditions: those that each theorem names. -/
import Derived.Test.YtffhhgcgnillaaaSpA
import Derived.Test.YtffhhgcgnillaaaSeC
namespace Go.Proofs.Ytffhhgcgnillaaa.Sy
open Go Go.Proofs
set_option linter.unusedSimpArgs false
set_option linter.unusedVariables false
set_option maxRecDepth 20000
attribute [local go_sem] XK_seq XK_block XK_skip XK_exit XK_ret XK_cond XK_reg XK_dreg XK_ureg KN_seq KN_blk KN_lp KN_chk KN_chku KN_top KN_fin KX_seq KX_lp KX_blk KX_chk KX_top KR_seq KR_blk KR_lp KR_chk KR_top KR_fin FK_true FK_false RK_nil RK_mv RK_pick RK_alloc RK_box RK_build RK_bslice RK_load1 RK_loadA RK_store RK_nilchk RK_bin RK_beq RK_eqv RK_eqnil RK_un RK_conv RK_mkfn RK_mkslice RK_slS RK_slA RK_fadr RK_fld RK_iadrA RK_iadrS RK_idxA RK_istr RK_ext RK_lenC RK_cap RK_app RK_appz RK_pre RK_cpy RK_mn RK_mx RK_len RK_carry RK_clr carryR um0 um1 ThenK_some RK_guard GK_tt GK_ff GK_tf GK_ft GK_none QK_some RK_callQ RK_callZ RK_callT TK_some VK_clo RK_callV
  evalOp evO evOs upd_at unfrz_at putE_some putE_none boolOf_b boolOf_tup Option.map_some evRes pack_one pack_two pack_three pack_none List.getD_cons_zero List.getD_cons_succ getD_nil
  Option.some.injEq exists_eq_left' Reg.cs? fillC setL List.set_cons_zero List.set_cons_succ List.length_cons List.length_nil rd_upd rd_updn rdB wr List.drop_zero List.drop_succ_cons List.take_succ_cons List.take_zero List.getElem?_cons_zero List.getElem?_cons_succ
  ix Int.toNat_zero lenO_sl lenO_nil nadd na_eq na_eq' na_lt na_ee na_ll na_ne na_ne' na_tt
attribute [local go_sem] Reg.flat_one Reg.flat_agg Reg.flat_tup flats_nil flats_cons Cell.flat_sc Cell.flat_ptr List.all_cons List.all_nil disOk safeOk safeR decide_eq_true_eq decide_eq_false_iff_not
  List.map_cons List.map_nil List.cons_append List.nil_append List.append_nil evalOp.capsOf Bool.false_bne Bool.bne_false Bool.true_bne Bool.bne_true bne_self_eq_false beq_self_eq_true Bool.not_not Bool.false_and Bool.and_false Bool.true_or Bool.or_true beq_iff_eq eqCells
  Bool.true_beq Bool.false_beq Bool.not_eq_true' Bool.not_eq_eq_eq_not Bool.not_eq_false' and_false false_and frz_at idOf noId Option.isSome_some Bool.and_eq_true
attribute [local go_sem] wr_eq bV_add bV_sub bV_mul bV_eql bV_neq bV_lss bV_leq bV_gtr bV_geq bV_quo bV_rem bV_shr bV_shl uV_not uV_neg wrapU bits_and bits_or bits_xor IntKind.bits Nat.min_eq_left Nat.min_eq_right Nat.min_self
attribute [local go_sem] bne_iff_ne Int.cast_ofNat_Int Nat.zero_add Nat.add_zero and_self and_true true_and ne_eq not_false_eq_true not_true_eq_false decide_true decide_false Bool.false_eq_true Bool.not_true Bool.not_false Bool.true_and Bool.and_true Bool.or_false Bool.false_or Bool.and_self

theorem v_BelowG (x d : Int) (hx : -2305843009213693952 ≤ x ∧ x ≤ 2305843009213693952) (hd : 0 < d) (hd2 : d ≤ 2305843009213693952) (m : Mem) (n : Nat) : callF TA 35 [RI x, RI d] m n = some (RI (x / d)) := by
  refine callF_of (Fn_ofK (fn := F35) rfl (by simp [F35]) ?_)
  have z : (d = 0) = False := eq_false (by omega)
  have hf := below_floor (X := x) (D := d) hd
  have e1 := Int.mul_ediv_add_emod x d
  have e2 := Int.emod_nonneg x (Int.ne_of_gt hd)
  have e3 := Int.emod_lt_of_pos x hd
  have k2 : -4611686018427387904 ≤ x / d := Int.le_ediv_of_mul_le hd (by
      have := Int.mul_le_mul_of_nonneg_left (show (1 : Int) ≤ d by omega) (show (0 : Int) ≤ 4611686018427387904 by decide)
      rw [Int.neg_mul]; omega)
  have k3 : x / d < 4611686018427387905 := Int.ediv_lt_of_lt_mul hd (by
      have := Int.mul_le_mul_of_nonneg_left (show (1 : Int) ≤ d by omega) (show (0 : Int) ≤ 4611686018427387905 by decide)
      omega)
  have hq : x.tdiv d = x / d ∨ x.tdiv d = x / d + 1 := by split at hf <;> omega
  have w1 : IntKind.i64.wrap (x.tdiv d) = x.tdiv d := wr_eq (by omega) (by omega)
  have w2 : IntKind.i64.wrap (x.tdiv d * d) = x.tdiv d * d := by
    have : x.tdiv d * d = d * (x / d) ∨ x.tdiv d * d = d * (x / d) + d := by
      rcases hq with h | h
      · left; rw [h, Int.mul_comm]
      · right; rw [h, Int.mul_comm, Int.mul_add, Int.mul_one]
    exact wr_eq (by omega) (by omega)
  have w3 : IntKind.i64.wrap (x.tdiv d - 1) = x.tdiv d - 1 := wr_eq (by omega) (by omega)
  rw [← hf]
  by_cases c : x < x.tdiv d * d
  all_goals
    try simp only [r35_0, r35_1, r35_2, r35_3, r35_4, c35, F35, z, w1, w2, w3, c, go_sem, Int.reduceTMod, Int.reduceTDiv, Int.reduceDiv, Int.reduceMod, Int.reduceAdd, Int.reduceSub, Int.reduceMul, Int.reduceNeg, Int.reducePow, Int.reduceEq, ↓reduceIte, Nat.reduceEqDiff, Nat.reduceAdd, Nat.reduceMul, Nat.reduceLeDiff, Nat.reduceSub, Nat.reduceLT, Int.reduceToNat, Int.reduceLT, Int.reduceLE, reduceCtorEq]
    repeat' ((first | refine FK_split (fun h_ => ?_) (fun h_ => ?_) | refine GK_split (fun h_ => ?_) (fun h_ => ?_) | refine ite_both (fun h_ => ?_) (fun h_ => ?_)) <;> (try simp only [decide_eq_true_eq, decide_eq_false_iff_not, Bool.not_true, Bool.not_false, Bool.not_eq_true', Bool.not_eq_false', Bool.not_eq_eq_eq_not, Decidable.not_not] at h_) <;> (try simp only [r35_0, r35_1, r35_2, r35_3, r35_4, c35, F35, z, w1, w2, w3, c, h_, go_sem, Int.reduceTMod, Int.reduceTDiv, Int.reduceDiv, Int.reduceMod, Int.reduceAdd, Int.reduceSub, Int.reduceMul, Int.reduceNeg, Int.reducePow, Int.reduceEq, ↓reduceIte, Nat.reduceEqDiff, Nat.reduceAdd, Nat.reduceMul, Nat.reduceLeDiff, Nat.reduceSub, Nat.reduceLT, Int.reduceToNat, Int.reduceLT, Int.reduceLE, reduceCtorEq]))
def clipV (n : Int) : Int := if n < -16777216 then -16777216 else if 16777216 < n then 16777216 else n
theorem clip_bd (n : Int) : -16777216 ≤ clipV n ∧ clipV n ≤ 16777216 := by unfold clipV; split <;> (try split) <;> omega
theorem far_iff {x y : Int} : farB x y = false ↔ (-16777216 ≤ x ∧ x ≤ 16777216) ∧ -16777216 ≤ y ∧ y ≤ 16777216 := by
  simp only [farB, Bool.or_eq_false_iff, decide_eq_false_iff_not]; omega
theorem clip_far (x y : Int) : farB (clipV x) (clipV y) = false := far_iff.2 ⟨clip_bd x, clip_bd y⟩
theorem clip_id {x y : Int} (h : farB x y = false) : clipV x = x ∧ clipV y = y := by
  rw [far_iff] at h
  unfold clipV
  rw [if_neg (by omega), if_neg (by omega), if_neg (by omega), if_neg (by omega)]
  exact ⟨rfl, rfl⟩
theorem v_clip (a : Int) (m : Mem) (n : Nat) : callF TA 27 [RI a] m n = some (RI (clipV a)) := by
  refine callF_of (Fn_ofK (fn := F27) rfl (by simp [F27]) ?_)
  have e : mnI (mxI a (-16777216)) 16777216 = clipV a := by unfold mnI mxI clipV; split <;> split <;> (try split) <;> omega
  try simp only [r27_0, r27_1, c27, F27, maxI_two, minI_two, e, go_sem, Int.reduceTMod, Int.reduceTDiv, Int.reduceDiv, Int.reduceMod, Int.reduceAdd, Int.reduceSub, Int.reduceMul, Int.reduceNeg, Int.reducePow, Int.reduceEq, ↓reduceIte, Nat.reduceEqDiff, Nat.reduceAdd, Nat.reduceMul, Nat.reduceLeDiff, Nat.reduceSub, Nat.reduceLT, Int.reduceToNat, Int.reduceLT, Int.reduceLE, reduceCtorEq]
  repeat' ((first | refine FK_split (fun h_ => ?_) (fun h_ => ?_) | refine GK_split (fun h_ => ?_) (fun h_ => ?_) | refine ite_both (fun h_ => ?_) (fun h_ => ?_)) <;> (try simp only [decide_eq_true_eq, decide_eq_false_iff_not, Bool.not_true, Bool.not_false, Bool.not_eq_true', Bool.not_eq_false', Bool.not_eq_eq_eq_not, Decidable.not_not] at h_) <;> (try simp only [r27_0, r27_1, c27, F27, maxI_two, minI_two, e, h_, go_sem, Int.reduceTMod, Int.reduceTDiv, Int.reduceDiv, Int.reduceMod, Int.reduceAdd, Int.reduceSub, Int.reduceMul, Int.reduceNeg, Int.reducePow, Int.reduceEq, ↓reduceIte, Nat.reduceEqDiff, Nat.reduceAdd, Nat.reduceMul, Nat.reduceLeDiff, Nat.reduceSub, Nat.reduceLT, Int.reduceToNat, Int.reduceLT, Int.reduceLE, reduceCtorEq]))
theorem v_rclip (a : Int) (m : Mem) (n : Nat) : callF TA 36 [RI a] m n = some (RI (clipV a)) := by
  refine callF_of (Fn_ofK (fn := F36) rfl (by simp [F36]) ?_)
  by_cases c1 : a < -16777216
  · have e : clipV a = -16777216 := if_pos c1
    try simp only [r36_0, r36_1, r36_2, r36_3, r36_4, r36_5, c36, F36, c1, e, go_sem, Int.reduceTMod, Int.reduceTDiv, Int.reduceDiv, Int.reduceMod, Int.reduceAdd, Int.reduceSub, Int.reduceMul, Int.reduceNeg, Int.reducePow, Int.reduceEq, ↓reduceIte, Nat.reduceEqDiff, Nat.reduceAdd, Nat.reduceMul, Nat.reduceLeDiff, Nat.reduceSub, Nat.reduceLT, Int.reduceToNat, Int.reduceLT, Int.reduceLE, reduceCtorEq]
    repeat' ((first | refine FK_split (fun h_ => ?_) (fun h_ => ?_) | refine GK_split (fun h_ => ?_) (fun h_ => ?_) | refine ite_both (fun h_ => ?_) (fun h_ => ?_)) <;> (try simp only [decide_eq_true_eq, decide_eq_false_iff_not, Bool.not_true, Bool.not_false, Bool.not_eq_true', Bool.not_eq_false', Bool.not_eq_eq_eq_not, Decidable.not_not] at h_) <;> (try simp only [r36_0, r36_1, r36_2, r36_3, r36_4, r36_5, c36, F36, c1, e, h_, go_sem, Int.reduceTMod, Int.reduceTDiv, Int.reduceDiv, Int.reduceMod, Int.reduceAdd, Int.reduceSub, Int.reduceMul, Int.reduceNeg, Int.reducePow, Int.reduceEq, ↓reduceIte, Nat.reduceEqDiff, Nat.reduceAdd, Nat.reduceMul, Nat.reduceLeDiff, Nat.reduceSub, Nat.reduceLT, Int.reduceToNat, Int.reduceLT, Int.reduceLE, reduceCtorEq]))
  · by_cases c2 : 16777216 < a
    · have e : clipV a = 16777216 := (if_neg c1).trans (if_pos c2)
      try simp only [r36_0, r36_1, r36_2, r36_3, r36_4, r36_5, c36, F36, c1, c2, e, go_sem, Int.reduceTMod, Int.reduceTDiv, Int.reduceDiv, Int.reduceMod, Int.reduceAdd, Int.reduceSub, Int.reduceMul, Int.reduceNeg, Int.reducePow, Int.reduceEq, ↓reduceIte, Nat.reduceEqDiff, Nat.reduceAdd, Nat.reduceMul, Nat.reduceLeDiff, Nat.reduceSub, Nat.reduceLT, Int.reduceToNat, Int.reduceLT, Int.reduceLE, reduceCtorEq]
      repeat' ((first | refine FK_split (fun h_ => ?_) (fun h_ => ?_) | refine GK_split (fun h_ => ?_) (fun h_ => ?_) | refine ite_both (fun h_ => ?_) (fun h_ => ?_)) <;> (try simp only [decide_eq_true_eq, decide_eq_false_iff_not, Bool.not_true, Bool.not_false, Bool.not_eq_true', Bool.not_eq_false', Bool.not_eq_eq_eq_not, Decidable.not_not] at h_) <;> (try simp only [r36_0, r36_1, r36_2, r36_3, r36_4, r36_5, c36, F36, c1, c2, e, h_, go_sem, Int.reduceTMod, Int.reduceTDiv, Int.reduceDiv, Int.reduceMod, Int.reduceAdd, Int.reduceSub, Int.reduceMul, Int.reduceNeg, Int.reducePow, Int.reduceEq, ↓reduceIte, Nat.reduceEqDiff, Nat.reduceAdd, Nat.reduceMul, Nat.reduceLeDiff, Nat.reduceSub, Nat.reduceLT, Int.reduceToNat, Int.reduceLT, Int.reduceLE, reduceCtorEq]))
    · have e : clipV a = a := (if_neg c1).trans (if_neg c2)
      try simp only [r36_0, r36_1, r36_2, r36_3, r36_4, r36_5, c36, F36, c1, c2, e, go_sem, Int.reduceTMod, Int.reduceTDiv, Int.reduceDiv, Int.reduceMod, Int.reduceAdd, Int.reduceSub, Int.reduceMul, Int.reduceNeg, Int.reducePow, Int.reduceEq, ↓reduceIte, Nat.reduceEqDiff, Nat.reduceAdd, Nat.reduceMul, Nat.reduceLeDiff, Nat.reduceSub, Nat.reduceLT, Int.reduceToNat, Int.reduceLT, Int.reduceLE, reduceCtorEq]
      repeat' ((first | refine FK_split (fun h_ => ?_) (fun h_ => ?_) | refine GK_split (fun h_ => ?_) (fun h_ => ?_) | refine ite_both (fun h_ => ?_) (fun h_ => ?_)) <;> (try simp only [decide_eq_true_eq, decide_eq_false_iff_not, Bool.not_true, Bool.not_false, Bool.not_eq_true', Bool.not_eq_false', Bool.not_eq_eq_eq_not, Decidable.not_not] at h_) <;> (try simp only [r36_0, r36_1, r36_2, r36_3, r36_4, r36_5, c36, F36, c1, c2, e, h_, go_sem, Int.reduceTMod, Int.reduceTDiv, Int.reduceDiv, Int.reduceMod, Int.reduceAdd, Int.reduceSub, Int.reduceMul, Int.reduceNeg, Int.reducePow, Int.reduceEq, ↓reduceIte, Nat.reduceEqDiff, Nat.reduceAdd, Nat.reduceMul, Nat.reduceLeDiff, Nat.reduceSub, Nat.reduceLT, Int.reduceToNat, Int.reduceLT, Int.reduceLE, reduceCtorEq]))
def nA (fx fy tx ty x y : Int) : Int := (x - fx) * (tx - fx) + (y - fy) * (ty - fy)
def dA (fx fy tx ty : Int) : Int := (tx - fx) * (tx - fx) + (ty - fy) * (ty - fy)
theorem sq_le {z : Int} (h1 : -33554432 ≤ z) (h2 : z ≤ 33554432) : 0 ≤ z * z ∧ z * z ≤ 1125899906842624 ∧ z ≤ z * z ∧ -z ≤ z * z := by
  rcases Int.le_total 0 z with k | k
  · refine ⟨Int.mul_nonneg k k, by have := Int.mul_le_mul h2 h2 k (by omega); omega, ?_, by have := Int.mul_nonneg k k; omega⟩
    rcases Int.le_total z 0 with h | h
    · have := Int.mul_nonneg k k; omega
    · by_cases hz : z = 0
      · subst hz; decide
      · have := Int.mul_le_mul_of_nonneg_left (show (1 : Int) ≤ z by omega) k; omega
  · have e : z * z = (-z) * (-z) := (Int.neg_mul_neg z z).symm
    rw [e]
    refine ⟨Int.mul_nonneg (by omega) (by omega), by have := Int.mul_le_mul (show -z ≤ 33554432 by omega) (show -z ≤ 33554432 by omega) (by omega) (by omega); omega, by have := Int.mul_nonneg (show 0 ≤ -z by omega) (show 0 ≤ -z by omega); omega, ?_⟩
    by_cases hz : z = 0
    · subst hz; decide
    · have := Int.mul_le_mul_of_nonneg_left (show (1 : Int) ≤ -z by omega) (show 0 ≤ -z by omega); omega
theorem prod_le {v z : Int} (h1 : -33554432 ≤ v) (h2 : v ≤ 33554432) (h3 : -33554432 ≤ z) (h4 : z ≤ 33554432) : -(33554432 * (z * z)) ≤ v * z ∧ v * z ≤ 33554432 * (z * z) ∧ -1125899906842624 ≤ v * z ∧ v * z ≤ 1125899906842624 := by
  obtain ⟨q1, q2, q3, q4⟩ := sq_le h3 h4
  rcases Int.le_total 0 z with k | k
  · have a1 := Int.mul_le_mul_of_nonneg_right h2 k
    have a2 := Int.mul_le_mul_of_nonneg_right h1 k
    omega
  · have a1 := Int.mul_le_mul_of_nonneg_right h2 (show 0 ≤ -z by omega)
    have a2 := Int.mul_le_mul_of_nonneg_right h1 (show 0 ≤ -z by omega)
    rw [Int.mul_neg, Int.mul_neg] at a1 a2
    omega
structure Near (fx fy tx ty : Int) : Prop where
  f : farB fx fy = false
  t : farB tx ty = false
  ne : ¬ (fx = tx ∧ fy = ty)
theorem dA_bd {fx fy tx ty : Int} (h : Near fx fy tx ty) : 0 < dA fx fy tx ty ∧ dA fx fy tx ty ≤ 2251799813685248 := by
  have hf := far_iff.1 h.f
  have ht := far_iff.1 h.t
  have hn := h.ne
  obtain ⟨a1, a2, a3, a4⟩ := sq_le (z := tx - fx) (by omega) (by omega)
  obtain ⟨b1, b2, b3, b4⟩ := sq_le (z := ty - fy) (by omega) (by omega)
  unfold dA
  generalize (tx - fx) * (tx - fx) = X at *
  generalize (ty - fy) * (ty - fy) = Y at *
  omega
theorem nA_bd {fx fy tx ty x y : Int} (h : Near fx fy tx ty) (hq : farB x y = false) : -(33554432 * dA fx fy tx ty) ≤ nA fx fy tx ty x y ∧ nA fx fy tx ty x y ≤ 33554432 * dA fx fy tx ty ∧ -2251799813685248 ≤ nA fx fy tx ty x y ∧ nA fx fy tx ty x y ≤ 2251799813685248 := by
  have hf := far_iff.1 h.f
  have ht := far_iff.1 h.t
  rw [far_iff] at hq
  obtain ⟨a1, a2, a3, a4⟩ := prod_le (v := x - fx) (z := tx - fx) (by omega) (by omega) (by omega) (by omega)
  obtain ⟨b1, b2, b3, b4⟩ := prod_le (v := y - fy) (z := ty - fy) (by omega) (by omega) (by omega) (by omega)
  unfold dA nA
  rw [Int.mul_add]
  omega
def alongV (fx fy tx ty x y : Int) : Int := nA fx fy tx ty x y * 65536 / dA fx fy tx ty
theorem v_along (p : Pai) (x y : Int) (h : Near p.fx p.fy p.tx p.ty) (hq : farB x y = false) (m : Mem) (n : Nat) :
    callF TA 29 [.agg p.cs, .agg [I x, I y]] m n = some (RI (alongV p.fx p.fy p.tx p.ty x y)) := by
  refine callF_of (Fn_ofK (fn := F29) rfl (by simp [F29]) ?_)
  obtain ⟨d0, d1⟩ := dA_bd h
  obtain ⟨n1, n2, n3, n4⟩ := nA_bd h hq
  obtain ⟨ex, md⟩ := v_MulDivG (nA p.fx p.fy p.tx p.ty x y) 65536 (dA p.fx p.fy p.tx p.ty) (by omega) (by omega) d0 (by omega) (by omega) (by omega) (fun _ => none) 0
  have hf := far_iff.1 h.f
  have ht := far_iff.1 h.t
  rw [far_iff] at hq
  have e1 : IntKind.i64.wrap (p.tx - p.fx) = p.tx - p.fx := wr_eq (by omega) (by omega)
  have e2 : IntKind.i64.wrap (p.ty - p.fy) = p.ty - p.fy := wr_eq (by omega) (by omega)
  have e3 : IntKind.i64.wrap (x - p.fx) = x - p.fx := wr_eq (by omega) (by omega)
  have e4 : IntKind.i64.wrap (y - p.fy) = y - p.fy := wr_eq (by omega) (by omega)
  obtain ⟨a1, a2, a3, a4⟩ := prod_le (v := x - p.fx) (z := p.tx - p.fx) (by omega) (by omega) (by omega) (by omega)
  obtain ⟨b1, b2, b3, b4⟩ := prod_le (v := y - p.fy) (z := p.ty - p.fy) (by omega) (by omega) (by omega) (by omega)
  obtain ⟨c1, c2, c3, c4⟩ := sq_le (z := p.tx - p.fx) (by omega) (by omega)
  obtain ⟨g1, g2, g3, g4⟩ := sq_le (z := p.ty - p.fy) (by omega) (by omega)
  have e5 : IntKind.i64.wrap ((x - p.fx) * (p.tx - p.fx)) = (x - p.fx) * (p.tx - p.fx) := wr_eq (by omega) (by omega)
  have e6 : IntKind.i64.wrap ((y - p.fy) * (p.ty - p.fy)) = (y - p.fy) * (p.ty - p.fy) := wr_eq (by omega) (by omega)
  have e7 : IntKind.i64.wrap ((p.tx - p.fx) * (p.tx - p.fx)) = (p.tx - p.fx) * (p.tx - p.fx) := wr_eq (by omega) (by omega)
  have e8 : IntKind.i64.wrap ((p.ty - p.fy) * (p.ty - p.fy)) = (p.ty - p.fy) * (p.ty - p.fy) := wr_eq (by omega) (by omega)
  have e9 : IntKind.i64.wrap ((x - p.fx) * (p.tx - p.fx) + (y - p.fy) * (p.ty - p.fy)) = nA p.fx p.fy p.tx p.ty x y := wr_eq (by omega) (by omega)
  have e10 : IntKind.i64.wrap ((p.tx - p.fx) * (p.tx - p.fx) + (p.ty - p.fy) * (p.ty - p.fy)) = dA p.fx p.fy p.tx p.ty := wr_eq (by omega) (by omega)
  try simp only [r29_0, r29_1, r29_2, r29_3, c29, F29, XK_ureg, e1, e2, e3, e4, e5, e6, e7, e8, e9, e10, md, alongV, go_sem, Int.reduceTMod, Int.reduceTDiv, Int.reduceDiv, Int.reduceMod, Int.reduceAdd, Int.reduceSub, Int.reduceMul, Int.reduceNeg, Int.reducePow, Int.reduceEq, ↓reduceIte, Nat.reduceEqDiff, Nat.reduceAdd, Nat.reduceMul, Nat.reduceLeDiff, Nat.reduceSub, Nat.reduceLT, Int.reduceToNat, Int.reduceLT, Int.reduceLE, reduceCtorEq]
  repeat' ((first | refine FK_split (fun h_ => ?_) (fun h_ => ?_) | refine GK_split (fun h_ => ?_) (fun h_ => ?_) | refine ite_both (fun h_ => ?_) (fun h_ => ?_)) <;> (try simp only [decide_eq_true_eq, decide_eq_false_iff_not, Bool.not_true, Bool.not_false, Bool.not_eq_true', Bool.not_eq_false', Bool.not_eq_eq_eq_not, Decidable.not_not] at h_) <;> (try simp only [r29_0, r29_1, r29_2, r29_3, c29, F29, XK_ureg, e1, e2, e3, e4, e5, e6, e7, e8, e9, e10, md, alongV, h_, go_sem, Int.reduceTMod, Int.reduceTDiv, Int.reduceDiv, Int.reduceMod, Int.reduceAdd, Int.reduceSub, Int.reduceMul, Int.reduceNeg, Int.reducePow, Int.reduceEq, ↓reduceIte, Nat.reduceEqDiff, Nat.reduceAdd, Nat.reduceMul, Nat.reduceLeDiff, Nat.reduceSub, Nat.reduceLT, Int.reduceToNat, Int.reduceLT, Int.reduceLE, reduceCtorEq]))
end Go.Proofs.Ytffhhgcgnillaaa.Sy
