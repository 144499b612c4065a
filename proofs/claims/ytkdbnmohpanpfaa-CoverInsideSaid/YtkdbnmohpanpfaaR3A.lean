/- The reference of chapter 03 walked: products in two parts, sides. Conditions: those that each theorem names. -/
import Derived.Test.YtkdbnmohpanpfaaGeA
namespace Go.Proofs.Ytkdbnmohpanpfaa.Sy
open Go Go.Proofs
set_option linter.unusedSimpArgs false
set_option linter.unusedVariables false
set_option maxRecDepth 20000
attribute [local go_sem] XK_seq XK_block XK_skip XK_exit XK_ret XK_cond XK_reg XK_dreg XK_ureg KN_seq KN_blk KN_lp KN_chk KN_chku KN_top KN_fin KX_seq KX_lp KX_blk KX_chk KX_top KR_seq KR_blk KR_lp KR_chk KR_top KR_fin FK_true FK_false RK_nil RK_mv RK_pick RK_alloc RK_box RK_build RK_bslice RK_load1 RK_loadA RK_store RK_nilchk RK_bin RK_beq RK_eqv RK_eqnil RK_un RK_conv RK_mkfn RK_mkslice RK_slS RK_slA RK_fadr RK_fld RK_iadrA RK_iadrS RK_idxA RK_istr RK_ext RK_lenC RK_cap RK_app RK_appz RK_pre RK_cpy RK_mn RK_mx RK_len RK_carry RK_clr carryR um0 um1 ThenK_some RK_guard GK_tt GK_ff GK_tf GK_ft GK_none QK_some RK_callQ RK_callZ RK_callT TK_some VK_clo RK_callV
  evalOp evO evOs upd_at unfrz_at putE_some putE_none boolOf_b boolOf_tup Option.map_some evRes pack_one pack_two pack_three pack_none List.getD_cons_zero List.getD_cons_succ getD_nil
  Option.some.injEq exists_eq_left' Reg.cs? fillC setL List.set_cons_zero List.set_cons_succ List.length_cons List.length_nil rd_upd rd_updn rdB wr List.drop_zero List.drop_succ_cons List.take_succ_cons List.take_zero List.getElem?_cons_zero List.getElem?_cons_succ
  ix Int.toNat_zero lenO_sl lenO_nil nadd na_eq na_eq' na_lt na_ee na_ll na_ne na_ne' na_tt
attribute [local go_sem] Reg.flat_one Reg.flat_agg Reg.flat_tup flats_nil flats_cons Cell.flat_sc Cell.flat_ptr List.all_cons List.all_nil disOk safeOk safeR decide_eq_true_eq decide_eq_false_iff_not
  List.map_cons List.map_nil List.cons_append List.nil_append List.append_nil evalOp.capsOf Bool.false_bne Bool.bne_false Bool.true_bne Bool.bne_true bne_self_eq_false beq_self_eq_true Bool.not_not Bool.false_and Bool.and_false Bool.true_or Bool.or_true beq_iff_eq eqCells
  Bool.true_beq Bool.false_beq Bool.not_eq_true' Bool.not_eq_eq_eq_not Bool.not_eq_false' and_false false_and frz_at idOf noId Option.isSome_some Bool.and_eq_true
attribute [local go_sem] wr_eq bV_add bV_sub bV_mul bV_eql bV_neq bV_lss bV_leq bV_gtr bV_geq bV_quo bV_rem bV_shr bV_shl uV_not uV_neg wrapU bits_and bits_or bits_xor IntKind.bits Nat.min_eq_left Nat.min_eq_right Nat.min_self
attribute [local go_sem] bne_iff_ne Int.cast_ofNat_Int Nat.zero_add Nat.add_zero and_self and_true true_and ne_eq not_false_eq_true not_true_eq_false decide_true decide_false Bool.false_eq_true Bool.not_true Bool.not_false Bool.true_and Bool.and_true Bool.or_false Bool.false_or Bool.and_self

theorem partsOf (a b : Int) (ha : 0 ≤ a) (ha' : a ≤ 8589934592) (hb : 0 ≤ b) (hb' : b ≤ 8589934592) :
    IntKind.i64.wrap ((IntKind.i64.wrap ((IntKind.i64.wrap (Int.tdiv a 65536)) * b)) + (IntKind.i64.wrap (Int.tdiv (IntKind.i64.wrap ((Int.tmod a 65536) * b)) 65536))) = a * b / 65536 ∧ Int.tmod (IntKind.i64.wrap ((Int.tmod a 65536) * b)) 65536 = a * b % 65536 := by
  simp only [wrapI]
  have e1 : Int.tdiv a 65536 = a / 65536 := Int.tdiv_eq_ediv_of_nonneg ha
  have e2 : Int.tmod a 65536 = a % 65536 := Int.tmod_eq_emod_of_nonneg ha
  rw [e1, e2, w64' (n := a / 65536) (by omega) (by omega)]
  have b1 : 0 ≤ (a % 65536) * b := Int.mul_nonneg (by omega) hb
  have b2 : (a % 65536) * b ≤ 65536 * 8589934592 := Int.mul_le_mul (by omega) hb' hb (by omega)
  have b3 : 0 ≤ (a / 65536) * b := Int.mul_nonneg (by omega) hb
  have b4 : (a / 65536) * b ≤ 131072 * 8589934592 := Int.mul_le_mul (by omega) hb' hb (by omega)
  rw [w64' (n := (a % 65536) * b) (by omega) (by omega), w64' (n := (a / 65536) * b) (by omega) (by omega)]
  rw [Int.tdiv_eq_ediv_of_nonneg b1, Int.tmod_eq_emod_of_nonneg b1]
  have e : a * b = 65536 * ((a / 65536) * b) + (a % 65536) * b := by
    rw [← Int.mul_assoc, ← Int.add_mul, Int.mul_ediv_add_emod]
  rw [e]
  generalize (a / 65536) * b = p at *
  generalize (a % 65536) * b = q at *
  unfold Go.RowKit.wrap64
  omega
/-- A number from its sign and its size. -/
def nab (x : Int) : Int := if x < 0 then -x else x
theorem nab_neg (x : Int) : nab (-x) = nab x := by unfold nab; split <;> split <;> omega
theorem nab_nonneg (x : Int) : 0 ≤ nab x := by unfold nab; split <;> omega

theorem v_product (a b : Int) (ha : -8589934592 ≤ a) (ha' : a ≤ 8589934592) (hb : -8589934592 ≤ b) (hb' : b ≤ 8589934592) (m : Mem) (n : Nat) :
    callF TA 54 [RI a, RI b] m n = some (.tup [RI (sgn (a * b)), RI (nab (a * b) / 65536), RI (nab (a * b) % 65536)]) := by
  refine callF_of (Fn_ofK (fn := F54) rfl (by simp [F54]) ?_)
  have z0 : sgn 0 = 0 := rfl
  have z1 : nab 0 = 0 := rfl
  rcases Int.lt_trichotomy a 0 with h | h | h <;> rcases Int.lt_trichotomy b 0 with k | k | k
  · obtain ⟨p1, p2⟩ := partsOf (-a) (-b) (by omega) (by omega) (by omega) (by omega)
    have hp := Int.mul_pos (show 0 < -a by omega) (show 0 < -b by omega)
    rw [Int.neg_mul_neg] at hp p1 p2
    have e1 : IntKind.i64.wrap (0 - a) = -a := (wr_eq (by omega) (by omega)).trans (by omega)
    have e2 : IntKind.i64.wrap (0 - b) = -b := (wr_eq (by omega) (by omega)).trans (by omega)
    have e3 : (-a = 0) = False := eq_false (by omega)
    have e4 : (-b = 0) = False := eq_false (by omega)
    have e5 : nab (a * b) = a * b := by unfold nab; rw [if_neg (by omega)]
    try simp only [r54_0, r54_1, r54_2, r54_3, r54_4, r54_5, r54_6, r54_7, r54_8, r54_9, r54_10, r54_11, c54, F54, h, k, e1, e2, e3, e4, e5, p1, p2, sgn_pos hp, go_sem, Int.reduceTMod, Int.reduceTDiv, Int.reduceDiv, Int.reduceMod, Int.reduceAdd, Int.reduceSub, Int.reduceMul, Int.reduceNeg, Int.reducePow, Int.reduceEq, ↓reduceIte, Nat.reduceEqDiff, Nat.reduceAdd, Nat.reduceMul, Nat.reduceLeDiff, Nat.reduceSub, Nat.reduceLT, Int.reduceToNat, Int.reduceLT, Int.reduceLE, reduceCtorEq]
    repeat' ((first | refine FK_split (fun h_ => ?_) (fun h_ => ?_) | refine GK_split (fun h_ => ?_) (fun h_ => ?_) | refine ite_both (fun h_ => ?_) (fun h_ => ?_)) <;> (try simp only [decide_eq_true_eq, decide_eq_false_iff_not, Bool.not_true, Bool.not_false, Bool.not_eq_true', Bool.not_eq_false', Bool.not_eq_eq_eq_not, Decidable.not_not] at h_) <;> (try simp only [r54_0, r54_1, r54_2, r54_3, r54_4, r54_5, r54_6, r54_7, r54_8, r54_9, r54_10, r54_11, c54, F54, h, k, e1, e2, e3, e4, e5, p1, p2, sgn_pos hp, h_, go_sem, Int.reduceTMod, Int.reduceTDiv, Int.reduceDiv, Int.reduceMod, Int.reduceAdd, Int.reduceSub, Int.reduceMul, Int.reduceNeg, Int.reducePow, Int.reduceEq, ↓reduceIte, Nat.reduceEqDiff, Nat.reduceAdd, Nat.reduceMul, Nat.reduceLeDiff, Nat.reduceSub, Nat.reduceLT, Int.reduceToNat, Int.reduceLT, Int.reduceLE, reduceCtorEq]))
  · subst k
    have e1 : IntKind.i64.wrap (0 - a) = -a := (wr_eq (by omega) (by omega)).trans (by omega)
    have e3 : (-a = 0) = False := eq_false (by omega)
    try simp only [r54_0, r54_1, r54_2, r54_3, r54_4, r54_5, r54_6, r54_7, r54_8, r54_9, r54_10, r54_11, c54, F54, h, e1, e3, Int.mul_zero, z0, z1, Int.zero_ediv, Int.zero_emod, go_sem, Int.reduceTMod, Int.reduceTDiv, Int.reduceDiv, Int.reduceMod, Int.reduceAdd, Int.reduceSub, Int.reduceMul, Int.reduceNeg, Int.reducePow, Int.reduceEq, ↓reduceIte, Nat.reduceEqDiff, Nat.reduceAdd, Nat.reduceMul, Nat.reduceLeDiff, Nat.reduceSub, Nat.reduceLT, Int.reduceToNat, Int.reduceLT, Int.reduceLE, reduceCtorEq]
    repeat' ((first | refine FK_split (fun h_ => ?_) (fun h_ => ?_) | refine GK_split (fun h_ => ?_) (fun h_ => ?_) | refine ite_both (fun h_ => ?_) (fun h_ => ?_)) <;> (try simp only [decide_eq_true_eq, decide_eq_false_iff_not, Bool.not_true, Bool.not_false, Bool.not_eq_true', Bool.not_eq_false', Bool.not_eq_eq_eq_not, Decidable.not_not] at h_) <;> (try simp only [r54_0, r54_1, r54_2, r54_3, r54_4, r54_5, r54_6, r54_7, r54_8, r54_9, r54_10, r54_11, c54, F54, h, e1, e3, Int.mul_zero, z0, z1, Int.zero_ediv, Int.zero_emod, h_, go_sem, Int.reduceTMod, Int.reduceTDiv, Int.reduceDiv, Int.reduceMod, Int.reduceAdd, Int.reduceSub, Int.reduceMul, Int.reduceNeg, Int.reducePow, Int.reduceEq, ↓reduceIte, Nat.reduceEqDiff, Nat.reduceAdd, Nat.reduceMul, Nat.reduceLeDiff, Nat.reduceSub, Nat.reduceLT, Int.reduceToNat, Int.reduceLT, Int.reduceLE, reduceCtorEq]))
  · obtain ⟨p1, p2⟩ := partsOf (-a) b (by omega) (by omega) (by omega) (by omega)
    have hp := Int.mul_pos (show 0 < -a by omega) k
    rw [Int.neg_mul] at hp p1 p2
    have e1 : IntKind.i64.wrap (0 - a) = -a := (wr_eq (by omega) (by omega)).trans (by omega)
    have e2 : (b < 0) = False := eq_false (by omega)
    have e3 : (-a = 0) = False := eq_false (by omega)
    have e4 : (b = 0) = False := eq_false (by omega)
    have e5 : nab (a * b) = -(a * b) := by unfold nab; rw [if_pos (by omega)]
    have e6 : sgn (a * b) = -1 := sgn_neg (by omega)
    try simp only [r54_0, r54_1, r54_2, r54_3, r54_4, r54_5, r54_6, r54_7, r54_8, r54_9, r54_10, r54_11, c54, F54, h, e1, e2, e3, e4, e5, e6, p1, p2, go_sem, Int.reduceTMod, Int.reduceTDiv, Int.reduceDiv, Int.reduceMod, Int.reduceAdd, Int.reduceSub, Int.reduceMul, Int.reduceNeg, Int.reducePow, Int.reduceEq, ↓reduceIte, Nat.reduceEqDiff, Nat.reduceAdd, Nat.reduceMul, Nat.reduceLeDiff, Nat.reduceSub, Nat.reduceLT, Int.reduceToNat, Int.reduceLT, Int.reduceLE, reduceCtorEq]
    repeat' ((first | refine FK_split (fun h_ => ?_) (fun h_ => ?_) | refine GK_split (fun h_ => ?_) (fun h_ => ?_) | refine ite_both (fun h_ => ?_) (fun h_ => ?_)) <;> (try simp only [decide_eq_true_eq, decide_eq_false_iff_not, Bool.not_true, Bool.not_false, Bool.not_eq_true', Bool.not_eq_false', Bool.not_eq_eq_eq_not, Decidable.not_not] at h_) <;> (try simp only [r54_0, r54_1, r54_2, r54_3, r54_4, r54_5, r54_6, r54_7, r54_8, r54_9, r54_10, r54_11, c54, F54, h, e1, e2, e3, e4, e5, e6, p1, p2, h_, go_sem, Int.reduceTMod, Int.reduceTDiv, Int.reduceDiv, Int.reduceMod, Int.reduceAdd, Int.reduceSub, Int.reduceMul, Int.reduceNeg, Int.reducePow, Int.reduceEq, ↓reduceIte, Nat.reduceEqDiff, Nat.reduceAdd, Nat.reduceMul, Nat.reduceLeDiff, Nat.reduceSub, Nat.reduceLT, Int.reduceToNat, Int.reduceLT, Int.reduceLE, reduceCtorEq]))
  · subst h
    have e1 : IntKind.i64.wrap (0 - b) = -b := (wr_eq (by omega) (by omega)).trans (by omega)
    try simp only [r54_0, r54_1, r54_2, r54_3, r54_4, r54_5, r54_6, r54_7, r54_8, r54_9, r54_10, r54_11, c54, F54, k, e1, Int.zero_mul, z0, z1, Int.zero_ediv, Int.zero_emod, go_sem, Int.reduceTMod, Int.reduceTDiv, Int.reduceDiv, Int.reduceMod, Int.reduceAdd, Int.reduceSub, Int.reduceMul, Int.reduceNeg, Int.reducePow, Int.reduceEq, ↓reduceIte, Nat.reduceEqDiff, Nat.reduceAdd, Nat.reduceMul, Nat.reduceLeDiff, Nat.reduceSub, Nat.reduceLT, Int.reduceToNat, Int.reduceLT, Int.reduceLE, reduceCtorEq]
    repeat' ((first | refine FK_split (fun h_ => ?_) (fun h_ => ?_) | refine GK_split (fun h_ => ?_) (fun h_ => ?_) | refine ite_both (fun h_ => ?_) (fun h_ => ?_)) <;> (try simp only [decide_eq_true_eq, decide_eq_false_iff_not, Bool.not_true, Bool.not_false, Bool.not_eq_true', Bool.not_eq_false', Bool.not_eq_eq_eq_not, Decidable.not_not] at h_) <;> (try simp only [r54_0, r54_1, r54_2, r54_3, r54_4, r54_5, r54_6, r54_7, r54_8, r54_9, r54_10, r54_11, c54, F54, k, e1, Int.zero_mul, z0, z1, Int.zero_ediv, Int.zero_emod, h_, go_sem, Int.reduceTMod, Int.reduceTDiv, Int.reduceDiv, Int.reduceMod, Int.reduceAdd, Int.reduceSub, Int.reduceMul, Int.reduceNeg, Int.reducePow, Int.reduceEq, ↓reduceIte, Nat.reduceEqDiff, Nat.reduceAdd, Nat.reduceMul, Nat.reduceLeDiff, Nat.reduceSub, Nat.reduceLT, Int.reduceToNat, Int.reduceLT, Int.reduceLE, reduceCtorEq]))
  · subst h
    subst k
    try simp only [r54_0, r54_1, r54_2, r54_3, r54_4, r54_5, r54_6, r54_7, r54_8, r54_9, r54_10, r54_11, c54, F54, Int.zero_mul, z0, z1, Int.zero_ediv, Int.zero_emod, go_sem, Int.reduceTMod, Int.reduceTDiv, Int.reduceDiv, Int.reduceMod, Int.reduceAdd, Int.reduceSub, Int.reduceMul, Int.reduceNeg, Int.reducePow, Int.reduceEq, ↓reduceIte, Nat.reduceEqDiff, Nat.reduceAdd, Nat.reduceMul, Nat.reduceLeDiff, Nat.reduceSub, Nat.reduceLT, Int.reduceToNat, Int.reduceLT, Int.reduceLE, reduceCtorEq]
    repeat' ((first | refine FK_split (fun h_ => ?_) (fun h_ => ?_) | refine GK_split (fun h_ => ?_) (fun h_ => ?_) | refine ite_both (fun h_ => ?_) (fun h_ => ?_)) <;> (try simp only [decide_eq_true_eq, decide_eq_false_iff_not, Bool.not_true, Bool.not_false, Bool.not_eq_true', Bool.not_eq_false', Bool.not_eq_eq_eq_not, Decidable.not_not] at h_) <;> (try simp only [r54_0, r54_1, r54_2, r54_3, r54_4, r54_5, r54_6, r54_7, r54_8, r54_9, r54_10, r54_11, c54, F54, Int.zero_mul, z0, z1, Int.zero_ediv, Int.zero_emod, h_, go_sem, Int.reduceTMod, Int.reduceTDiv, Int.reduceDiv, Int.reduceMod, Int.reduceAdd, Int.reduceSub, Int.reduceMul, Int.reduceNeg, Int.reducePow, Int.reduceEq, ↓reduceIte, Nat.reduceEqDiff, Nat.reduceAdd, Nat.reduceMul, Nat.reduceLeDiff, Nat.reduceSub, Nat.reduceLT, Int.reduceToNat, Int.reduceLT, Int.reduceLE, reduceCtorEq]))
  · subst h
    have e2 : (b < 0) = False := eq_false (by omega)
    try simp only [r54_0, r54_1, r54_2, r54_3, r54_4, r54_5, r54_6, r54_7, r54_8, r54_9, r54_10, r54_11, c54, F54, e2, Int.zero_mul, z0, z1, Int.zero_ediv, Int.zero_emod, go_sem, Int.reduceTMod, Int.reduceTDiv, Int.reduceDiv, Int.reduceMod, Int.reduceAdd, Int.reduceSub, Int.reduceMul, Int.reduceNeg, Int.reducePow, Int.reduceEq, ↓reduceIte, Nat.reduceEqDiff, Nat.reduceAdd, Nat.reduceMul, Nat.reduceLeDiff, Nat.reduceSub, Nat.reduceLT, Int.reduceToNat, Int.reduceLT, Int.reduceLE, reduceCtorEq]
    repeat' ((first | refine FK_split (fun h_ => ?_) (fun h_ => ?_) | refine GK_split (fun h_ => ?_) (fun h_ => ?_) | refine ite_both (fun h_ => ?_) (fun h_ => ?_)) <;> (try simp only [decide_eq_true_eq, decide_eq_false_iff_not, Bool.not_true, Bool.not_false, Bool.not_eq_true', Bool.not_eq_false', Bool.not_eq_eq_eq_not, Decidable.not_not] at h_) <;> (try simp only [r54_0, r54_1, r54_2, r54_3, r54_4, r54_5, r54_6, r54_7, r54_8, r54_9, r54_10, r54_11, c54, F54, e2, Int.zero_mul, z0, z1, Int.zero_ediv, Int.zero_emod, h_, go_sem, Int.reduceTMod, Int.reduceTDiv, Int.reduceDiv, Int.reduceMod, Int.reduceAdd, Int.reduceSub, Int.reduceMul, Int.reduceNeg, Int.reducePow, Int.reduceEq, ↓reduceIte, Nat.reduceEqDiff, Nat.reduceAdd, Nat.reduceMul, Nat.reduceLeDiff, Nat.reduceSub, Nat.reduceLT, Int.reduceToNat, Int.reduceLT, Int.reduceLE, reduceCtorEq]))
  · obtain ⟨p1, p2⟩ := partsOf a (-b) (by omega) (by omega) (by omega) (by omega)
    have hp := Int.mul_pos h (show 0 < -b by omega)
    rw [Int.mul_neg] at hp
    have e7 : a * -b = -(a * b) := Int.mul_neg a b
    have e1 : IntKind.i64.wrap (0 - b) = -b := (wr_eq (by omega) (by omega)).trans (by omega)
    have e2 : (a < 0) = False := eq_false (by omega)
    have e3 : (a = 0) = False := eq_false (by omega)
    have e4 : (-b = 0) = False := eq_false (by omega)
    have e5 : nab (a * b) = -(a * b) := by unfold nab; rw [if_pos (by omega)]
    have e6 : sgn (a * b) = -1 := sgn_neg (by omega)
    try simp only [r54_0, r54_1, r54_2, r54_3, r54_4, r54_5, r54_6, r54_7, r54_8, r54_9, r54_10, r54_11, c54, F54, k, e1, e2, e3, e4, e5, e6, p1, p2, e7, go_sem, Int.reduceTMod, Int.reduceTDiv, Int.reduceDiv, Int.reduceMod, Int.reduceAdd, Int.reduceSub, Int.reduceMul, Int.reduceNeg, Int.reducePow, Int.reduceEq, ↓reduceIte, Nat.reduceEqDiff, Nat.reduceAdd, Nat.reduceMul, Nat.reduceLeDiff, Nat.reduceSub, Nat.reduceLT, Int.reduceToNat, Int.reduceLT, Int.reduceLE, reduceCtorEq]
    repeat' ((first | refine FK_split (fun h_ => ?_) (fun h_ => ?_) | refine GK_split (fun h_ => ?_) (fun h_ => ?_) | refine ite_both (fun h_ => ?_) (fun h_ => ?_)) <;> (try simp only [decide_eq_true_eq, decide_eq_false_iff_not, Bool.not_true, Bool.not_false, Bool.not_eq_true', Bool.not_eq_false', Bool.not_eq_eq_eq_not, Decidable.not_not] at h_) <;> (try simp only [r54_0, r54_1, r54_2, r54_3, r54_4, r54_5, r54_6, r54_7, r54_8, r54_9, r54_10, r54_11, c54, F54, k, e1, e2, e3, e4, e5, e6, p1, p2, e7, h_, go_sem, Int.reduceTMod, Int.reduceTDiv, Int.reduceDiv, Int.reduceMod, Int.reduceAdd, Int.reduceSub, Int.reduceMul, Int.reduceNeg, Int.reducePow, Int.reduceEq, ↓reduceIte, Nat.reduceEqDiff, Nat.reduceAdd, Nat.reduceMul, Nat.reduceLeDiff, Nat.reduceSub, Nat.reduceLT, Int.reduceToNat, Int.reduceLT, Int.reduceLE, reduceCtorEq]))
  · subst k
    have e2 : (a < 0) = False := eq_false (by omega)
    have e3 : (a = 0) = False := eq_false (by omega)
    try simp only [r54_0, r54_1, r54_2, r54_3, r54_4, r54_5, r54_6, r54_7, r54_8, r54_9, r54_10, r54_11, c54, F54, e2, e3, Int.mul_zero, z0, z1, Int.zero_ediv, Int.zero_emod, go_sem, Int.reduceTMod, Int.reduceTDiv, Int.reduceDiv, Int.reduceMod, Int.reduceAdd, Int.reduceSub, Int.reduceMul, Int.reduceNeg, Int.reducePow, Int.reduceEq, ↓reduceIte, Nat.reduceEqDiff, Nat.reduceAdd, Nat.reduceMul, Nat.reduceLeDiff, Nat.reduceSub, Nat.reduceLT, Int.reduceToNat, Int.reduceLT, Int.reduceLE, reduceCtorEq]
    repeat' ((first | refine FK_split (fun h_ => ?_) (fun h_ => ?_) | refine GK_split (fun h_ => ?_) (fun h_ => ?_) | refine ite_both (fun h_ => ?_) (fun h_ => ?_)) <;> (try simp only [decide_eq_true_eq, decide_eq_false_iff_not, Bool.not_true, Bool.not_false, Bool.not_eq_true', Bool.not_eq_false', Bool.not_eq_eq_eq_not, Decidable.not_not] at h_) <;> (try simp only [r54_0, r54_1, r54_2, r54_3, r54_4, r54_5, r54_6, r54_7, r54_8, r54_9, r54_10, r54_11, c54, F54, e2, e3, Int.mul_zero, z0, z1, Int.zero_ediv, Int.zero_emod, h_, go_sem, Int.reduceTMod, Int.reduceTDiv, Int.reduceDiv, Int.reduceMod, Int.reduceAdd, Int.reduceSub, Int.reduceMul, Int.reduceNeg, Int.reducePow, Int.reduceEq, ↓reduceIte, Nat.reduceEqDiff, Nat.reduceAdd, Nat.reduceMul, Nat.reduceLeDiff, Nat.reduceSub, Nat.reduceLT, Int.reduceToNat, Int.reduceLT, Int.reduceLE, reduceCtorEq]))
  · obtain ⟨p1, p2⟩ := partsOf a b (by omega) (by omega) (by omega) (by omega)
    have hp := Int.mul_pos h k
    have e1 : (a < 0) = False := eq_false (by omega)
    have e2 : (b < 0) = False := eq_false (by omega)
    have e3 : (a = 0) = False := eq_false (by omega)
    have e4 : (b = 0) = False := eq_false (by omega)
    have e5 : nab (a * b) = a * b := by unfold nab; rw [if_neg (by omega)]
    try simp only [r54_0, r54_1, r54_2, r54_3, r54_4, r54_5, r54_6, r54_7, r54_8, r54_9, r54_10, r54_11, c54, F54, e1, e2, e3, e4, e5, p1, p2, sgn_pos hp, go_sem, Int.reduceTMod, Int.reduceTDiv, Int.reduceDiv, Int.reduceMod, Int.reduceAdd, Int.reduceSub, Int.reduceMul, Int.reduceNeg, Int.reducePow, Int.reduceEq, ↓reduceIte, Nat.reduceEqDiff, Nat.reduceAdd, Nat.reduceMul, Nat.reduceLeDiff, Nat.reduceSub, Nat.reduceLT, Int.reduceToNat, Int.reduceLT, Int.reduceLE, reduceCtorEq]
    repeat' ((first | refine FK_split (fun h_ => ?_) (fun h_ => ?_) | refine GK_split (fun h_ => ?_) (fun h_ => ?_) | refine ite_both (fun h_ => ?_) (fun h_ => ?_)) <;> (try simp only [decide_eq_true_eq, decide_eq_false_iff_not, Bool.not_true, Bool.not_false, Bool.not_eq_true', Bool.not_eq_false', Bool.not_eq_eq_eq_not, Decidable.not_not] at h_) <;> (try simp only [r54_0, r54_1, r54_2, r54_3, r54_4, r54_5, r54_6, r54_7, r54_8, r54_9, r54_10, r54_11, c54, F54, e1, e2, e3, e4, e5, p1, p2, sgn_pos hp, h_, go_sem, Int.reduceTMod, Int.reduceTDiv, Int.reduceDiv, Int.reduceMod, Int.reduceAdd, Int.reduceSub, Int.reduceMul, Int.reduceNeg, Int.reducePow, Int.reduceEq, ↓reduceIte, Nat.reduceEqDiff, Nat.reduceAdd, Nat.reduceMul, Nat.reduceLeDiff, Nat.reduceSub, Nat.reduceLT, Int.reduceToNat, Int.reduceLT, Int.reduceLE, reduceCtorEq]))

theorem sgn_diff (p q : Int) : sgn (p - q) = if sgn p = sgn q then (if nab p / 65536 = nab q / 65536 ∧ nab p % 65536 = nab q % 65536 then 0 else if nab q / 65536 < nab p / 65536 ∨ nab p / 65536 = nab q / 65536 ∧ nab q % 65536 < nab p % 65536 then sgn p else -sgn p) else if sgn q < sgn p then 1 else -1 := by
  unfold sgn nab
  repeat' split
  all_goals omega
theorem v_rSide (ax ay bx b_y cx cy : Int) (h1 : rm ax = true) (h2 : rm ay = true) (h3 : rm bx = true) (h4 : rm b_y = true) (h5 : rm cx = true) (h6 : rm cy = true) (m : Mem) (n : Nat) :
    callF TA 47 [.agg [I ax, I ay], .agg [I bx, I b_y], .agg [I cx, I cy]] m n = some (RI (sgn (cross ax ay bx b_y cx cy))) := by
  refine callF_of (Fn_ofK (fn := F47) rfl (by simp [F47]) ?_)
  rw [rm_iff] at h1 h2 h3 h4 h5 h6
  have w : ∀ a b : Int, (-2147483648 ≤ a ∧ a ≤ 2147483648) → (-2147483648 ≤ b ∧ b ≤ 2147483648) → IntKind.i64.wrap (a - b) = a - b := fun a b h k => wr_eq (by omega) (by omega)
  have v1 := fun m n => v_product (bx - ax) (cy - ay) (by omega) (by omega) (by omega) (by omega) m n
  have v2 := fun m n => v_product (b_y - ay) (cx - ax) (by omega) (by omega) (by omega) (by omega) m n
  unfold cross
  rw [sgn_diff]
  generalize (bx - ax) * (cy - ay) = p at *
  generalize (b_y - ay) * (cx - ax) = q at *
  have hw : IntKind.i64.wrap (0 - sgn p) = -sgn p := by have := sgn_bd p; exact (wr_eq (by omega) (by omega)).trans (by omega)
  have hw2 : IntKind.i64.wrap (0 - sgn q) = -sgn q := by have := sgn_bd q; exact (wr_eq (by omega) (by omega)).trans (by omega)
  by_cases c1 : sgn p = sgn q <;> by_cases c2 : sgn q < sgn p <;> by_cases c3 : nab p / 65536 = nab q / 65536 <;> by_cases c4 : nab p % 65536 = nab q % 65536 <;> by_cases c5 : nab q / 65536 < nab p / 65536 <;> by_cases c6 : nab q % 65536 < nab p % 65536
  all_goals (try omega)
  all_goals
    try simp only [r47_0, r47_1, r47_2, r47_3, r47_4, r47_5, r47_6, r47_7, r47_8, r47_9, r47_10, r47_11, c47, F47, w bx ax h3 h1, w cy ay h6 h2, w b_y ay h4 h2, w cx ax h5 h1, v1, v2, hw, hw2, c1, c2, c3, c4, c5, c6, or_false, false_or, or_true, true_or, or_self, and_self, go_sem, Int.reduceTMod, Int.reduceTDiv, Int.reduceDiv, Int.reduceMod, Int.reduceAdd, Int.reduceSub, Int.reduceMul, Int.reduceNeg, Int.reducePow, Int.reduceEq, ↓reduceIte, Nat.reduceEqDiff, Nat.reduceAdd, Nat.reduceMul, Nat.reduceLeDiff, Nat.reduceSub, Nat.reduceLT, Int.reduceToNat, Int.reduceLT, Int.reduceLE, reduceCtorEq]
    repeat' ((first | refine FK_split (fun h_ => ?_) (fun h_ => ?_) | refine GK_split (fun h_ => ?_) (fun h_ => ?_) | refine ite_both (fun h_ => ?_) (fun h_ => ?_)) <;> (try simp only [decide_eq_true_eq, decide_eq_false_iff_not, Bool.not_true, Bool.not_false, Bool.not_eq_true', Bool.not_eq_false', Bool.not_eq_eq_eq_not, Decidable.not_not] at h_) <;> (try simp only [r47_0, r47_1, r47_2, r47_3, r47_4, r47_5, r47_6, r47_7, r47_8, r47_9, r47_10, r47_11, c47, F47, w bx ax h3 h1, w cy ay h6 h2, w b_y ay h4 h2, w cx ax h5 h1, v1, v2, hw, hw2, c1, c2, c3, c4, c5, c6, or_false, false_or, or_true, true_or, or_self, and_self, h_, go_sem, Int.reduceTMod, Int.reduceTDiv, Int.reduceDiv, Int.reduceMod, Int.reduceAdd, Int.reduceSub, Int.reduceMul, Int.reduceNeg, Int.reducePow, Int.reduceEq, ↓reduceIte, Nat.reduceEqDiff, Nat.reduceAdd, Nat.reduceMul, Nat.reduceLeDiff, Nat.reduceSub, Nat.reduceLT, Int.reduceToNat, Int.reduceLT, Int.reduceLE, reduceCtorEq]))
end Go.Proofs.Ytkdbnmohpanpfaa.Sy
