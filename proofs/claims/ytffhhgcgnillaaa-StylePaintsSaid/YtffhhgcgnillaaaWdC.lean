/- Package wide walked: sums, signs, ints. Conditions: those that each theorem names. -/
import Derived.Test.YtffhhgcgnillaaaWdA
namespace Go.Proofs.Ytffhhgcgnillaaa.Sy
open Go Go.Proofs
set_option linter.unusedSimpArgs false
set_option linter.unusedVariables false
set_option maxRecDepth 20000
attribute [local go_sem] XK_seq XK_block XK_skip XK_exit XK_ret XK_cond XK_reg XK_dreg XK_ureg KN_seq KN_blk KN_lp KN_chk KN_chku KN_top KN_fin KX_seq KX_lp KX_blk KX_chk KX_top KR_seq KR_blk KR_lp KR_chk KR_top KR_fin FK_true FK_false RK_nil RK_mv RK_pick RK_alloc RK_box RK_build RK_bslice RK_load1 RK_loadA RK_store RK_nilchk RK_bin RK_beq RK_eqv RK_eqnil RK_un RK_conv RK_mkfn RK_mkslice RK_slS RK_slA RK_fadr RK_fld RK_iadrA RK_iadrS RK_idxA RK_istr RK_ext RK_lenC RK_cap RK_app RK_appz RK_pre RK_cpy RK_mn RK_mx RK_len RK_carry RK_clr carryR um0 um1 ThenK_some RK_guard GK_tt GK_ff GK_tf GK_ft GK_none QK_some RK_callQ RK_callZ RK_callT TK_some VK_clo RK_callV
  evalOp evO evOs upd_at unfrz_at putE_some putE_none boolOf_b boolOf_tup Option.map_some evRes pack_one pack_two pack_three pack_none List.getD_cons_zero List.getD_cons_succ getD_nil
  Option.some.injEq exists_eq_left' Reg.cs? fillC setL List.set_cons_zero List.set_cons_succ List.length_cons List.length_nil rd_upd rd_updn rdB wr List.drop_zero List.drop_succ_cons List.take_succ_cons List.take_zero List.getElem?_cons_zero List.getElem?_cons_succ
  ix Int.toNat_zero lenO_sl lenO_nil nadd na_eq na_eq' na_lt na_ee na_ll na_ne na_ne' na_tt
attribute [local go_sem] Reg.flat_one Reg.flat_agg Reg.flat_tup flats_nil flats_cons Cell.flat_sc Cell.flat_ptr List.all_cons List.all_nil disOk safeOk safeR decide_eq_true_eq decide_eq_false_iff_not
  List.map_cons List.map_nil List.cons_append List.nil_append List.append_nil evalOp.capsOf Bool.false_bne Bool.bne_false Bool.true_bne Bool.bne_true bne_self_eq_false beq_self_eq_true Bool.not_not Bool.false_and Bool.and_false Bool.true_or Bool.or_true beq_iff_eq eqCells
  Bool.true_beq Bool.false_beq Bool.not_eq_true' Bool.not_eq_eq_eq_not Bool.not_eq_false' and_false false_and frz_at idOf noId Option.isSome_some Bool.and_eq_true
attribute [local go_sem] wr_eq bV_add bV_sub bV_mul bV_eql bV_neq bV_lss bV_leq bV_gtr bV_geq bV_quo bV_rem bV_shr bV_shl uV_not uV_neg wrapU bits_and bits_or bits_xor IntKind.bits Nat.min_eq_left Nat.min_eq_right Nat.min_self
attribute [local go_sem] bne_iff_ne Int.cast_ofNat_Int Nat.zero_add Nat.add_zero and_self and_true true_and ne_eq not_false_eq_true not_true_eq_false decide_true decide_false Bool.false_eq_true Bool.not_true Bool.not_false Bool.true_and Bool.and_true Bool.or_false Bool.false_or Bool.and_self

/-- What a pair of words stands for. -/
abbrev vN (h l : Int) : Int := h * 18446744073709551616 + l
theorem v_Of (a : Int) (h0 : -9223372036854775808 ≤ a) (h1 : a ≤ 9223372036854775807) (m : Mem) (n : Nat) : callF TA 52 [RI a] m n = some (.agg [I (a / 9223372036854775808), U (a % 18446744073709551616)]) := by
  refine callF_of (Fn_ofK (fn := F52) rfl (by simp [F52]) ?_)
  try simp only [r52_0, r52_1, c52, F52, go_sem, Int.reduceTMod, Int.reduceTDiv, Int.reduceDiv, Int.reduceMod, Int.reduceAdd, Int.reduceSub, Int.reduceMul, Int.reduceNeg, Int.reducePow, Int.reduceEq, ↓reduceIte, Nat.reduceEqDiff, Nat.reduceAdd, Nat.reduceMul, Nat.reduceLeDiff, Nat.reduceSub, Nat.reduceLT, Int.reduceToNat, Int.reduceLT, Int.reduceLE, reduceCtorEq]
  repeat' ((first | refine FK_split (fun h_ => ?_) (fun h_ => ?_) | refine GK_split (fun h_ => ?_) (fun h_ => ?_) | refine ite_both (fun h_ => ?_) (fun h_ => ?_)) <;> (try simp only [decide_eq_true_eq, decide_eq_false_iff_not, Bool.not_true, Bool.not_false, Bool.not_eq_true', Bool.not_eq_false', Bool.not_eq_eq_eq_not, Decidable.not_not] at h_) <;> (try simp only [r52_0, r52_1, c52, F52, h_, go_sem, Int.reduceTMod, Int.reduceTDiv, Int.reduceDiv, Int.reduceMod, Int.reduceAdd, Int.reduceSub, Int.reduceMul, Int.reduceNeg, Int.reducePow, Int.reduceEq, ↓reduceIte, Nat.reduceEqDiff, Nat.reduceAdd, Nat.reduceMul, Nat.reduceLeDiff, Nat.reduceSub, Nat.reduceLT, Int.reduceToNat, Int.reduceLT, Int.reduceLE, reduceCtorEq]))
theorem wn_of (a : Int) (h0 : -9223372036854775808 ≤ a) (h1 : a ≤ 9223372036854775807) : a / 9223372036854775808 = a / 18446744073709551616 := by omega
/-- The sum's words. -/
def addH (h l h' l' : Int) : Int := IntKind.i64.wrap (h + h' + (l + l') / 18446744073709551616)
theorem v_wAdd (h l h' l' : Int) (h0 : 0 ≤ l) (h1 : l < 18446744073709551616) (h2 : 0 ≤ l') (h3 : l' < 18446744073709551616) (m : Mem) (n : Nat) :
    callF TA 51 [.agg [I h, U l], .agg [I h', U l']] m n = some (.agg [I (addH h l h' l'), U ((l + l') % 18446744073709551616)]) := by
  refine callF_of (Fn_ofK (fn := F51) rfl (by simp [F51]) ?_)
  have c0 : ((l + l') / 18446744073709551616 = 0 ∨ (l + l') / 18446744073709551616 = 1) = True := eq_true (by omega)
  have e : ∀ k, IntKind.i64.wrap ((h % 18446744073709551616 + h' % 18446744073709551616 + k) % 18446744073709551616) = IntKind.i64.wrap (h + h' + k) := by
    intro k; rw [wrapI, wrapI]; unfold Go.RowKit.wrap64; omega
  try simp only [r51_0, r51_1, r51_2, r51_3, c51, F51, h0, h1, h2, h3, c0, e, and_true, true_and, true_or, Int.le_refl, addH, Int.add_zero, go_sem, Int.reduceTMod, Int.reduceTDiv, Int.reduceDiv, Int.reduceMod, Int.reduceAdd, Int.reduceSub, Int.reduceMul, Int.reduceNeg, Int.reducePow, Int.reduceEq, ↓reduceIte, Nat.reduceEqDiff, Nat.reduceAdd, Nat.reduceMul, Nat.reduceLeDiff, Nat.reduceSub, Nat.reduceLT, Int.reduceToNat, Int.reduceLT, Int.reduceLE, reduceCtorEq]
  repeat' ((first | refine FK_split (fun h_ => ?_) (fun h_ => ?_) | refine GK_split (fun h_ => ?_) (fun h_ => ?_) | refine ite_both (fun h_ => ?_) (fun h_ => ?_)) <;> (try simp only [decide_eq_true_eq, decide_eq_false_iff_not, Bool.not_true, Bool.not_false, Bool.not_eq_true', Bool.not_eq_false', Bool.not_eq_eq_eq_not, Decidable.not_not] at h_) <;> (try simp only [r51_0, r51_1, r51_2, r51_3, c51, F51, h0, h1, h2, h3, c0, e, and_true, true_and, true_or, Int.le_refl, addH, Int.add_zero, h_, go_sem, Int.reduceTMod, Int.reduceTDiv, Int.reduceDiv, Int.reduceMod, Int.reduceAdd, Int.reduceSub, Int.reduceMul, Int.reduceNeg, Int.reducePow, Int.reduceEq, ↓reduceIte, Nat.reduceEqDiff, Nat.reduceAdd, Nat.reduceMul, Nat.reduceLeDiff, Nat.reduceSub, Nat.reduceLT, Int.reduceToNat, Int.reduceLT, Int.reduceLE, reduceCtorEq]))
theorem add_mod (h l h' l' : Int) : (vN (addH h l h' l') ((l + l') % 18446744073709551616) - (vN h l + vN h' l')) % 340282366920938463463374607431768211456 = 0 := by
  unfold addH vN
  rw [wrapI]
  unfold Go.RowKit.wrap64
  exact Int.emod_eq_zero_of_dvd ⟨-((h + h' + (l + l') / 18446744073709551616 + 9223372036854775808) / 18446744073709551616), by omega⟩
/-- The difference's words. -/
def subH (h l h' l' : Int) : Int := IntKind.i64.wrap (h - h' - if l < l' then 1 else 0)
theorem v_wSub (h l h' l' : Int) (h0 : 0 ≤ l) (h1 : l < 18446744073709551616) (h2 : 0 ≤ l') (h3 : l' < 18446744073709551616) (m : Mem) (n : Nat) :
    callF TA 59 [.agg [I h, U l], .agg [I h', U l']] m n = some (.agg [I (subH h l h' l'), U ((l - l') % 18446744073709551616)]) := by
  refine callF_of (Fn_ofK (fn := F59) rfl (by simp [F59]) ?_)
  have e : ∀ k, IntKind.i64.wrap ((h % 18446744073709551616 - h' % 18446744073709551616 - k) % 18446744073709551616) = IntKind.i64.wrap (h - h' - k) := by
    intro k; rw [wrapI, wrapI]; unfold Go.RowKit.wrap64; omega
  have e0 := e 0
  simp only [Int.sub_zero] at e0
  by_cases c : l < l'
  all_goals
    try simp only [r59_0, r59_1, r59_2, r59_3, c59, F59, e0, h0, h1, h2, h3, c, e, and_true, true_and, true_or, or_true, Int.le_refl, subH, Int.add_zero, Int.sub_zero, go_sem, Int.reduceTMod, Int.reduceTDiv, Int.reduceDiv, Int.reduceMod, Int.reduceAdd, Int.reduceSub, Int.reduceMul, Int.reduceNeg, Int.reducePow, Int.reduceEq, ↓reduceIte, Nat.reduceEqDiff, Nat.reduceAdd, Nat.reduceMul, Nat.reduceLeDiff, Nat.reduceSub, Nat.reduceLT, Int.reduceToNat, Int.reduceLT, Int.reduceLE, reduceCtorEq]
    repeat' ((first | refine FK_split (fun h_ => ?_) (fun h_ => ?_) | refine GK_split (fun h_ => ?_) (fun h_ => ?_) | refine ite_both (fun h_ => ?_) (fun h_ => ?_)) <;> (try simp only [decide_eq_true_eq, decide_eq_false_iff_not, Bool.not_true, Bool.not_false, Bool.not_eq_true', Bool.not_eq_false', Bool.not_eq_eq_eq_not, Decidable.not_not] at h_) <;> (try simp only [r59_0, r59_1, r59_2, r59_3, c59, F59, e0, h0, h1, h2, h3, c, e, and_true, true_and, true_or, or_true, Int.le_refl, subH, Int.add_zero, Int.sub_zero, h_, go_sem, Int.reduceTMod, Int.reduceTDiv, Int.reduceDiv, Int.reduceMod, Int.reduceAdd, Int.reduceSub, Int.reduceMul, Int.reduceNeg, Int.reducePow, Int.reduceEq, ↓reduceIte, Nat.reduceEqDiff, Nat.reduceAdd, Nat.reduceMul, Nat.reduceLeDiff, Nat.reduceSub, Nat.reduceLT, Int.reduceToNat, Int.reduceLT, Int.reduceLE, reduceCtorEq]))
theorem sub_mod (h l h' l' : Int) (h0 : 0 ≤ l) (h1 : l < 18446744073709551616) (h2 : 0 ≤ l') (h3 : l' < 18446744073709551616) : (vN (subH h l h' l') ((l - l') % 18446744073709551616) - (vN h l - vN h' l')) % 340282366920938463463374607431768211456 = 0 := by
  unfold subH vN
  rw [wrapI]
  unfold Go.RowKit.wrap64
  split
  · exact Int.emod_eq_zero_of_dvd ⟨-((h - h' - 1 + 9223372036854775808) / 18446744073709551616), by omega⟩
  · exact Int.emod_eq_zero_of_dvd ⟨-((h - h' - 0 + 9223372036854775808) / 18446744073709551616), by omega⟩
theorem v_wNeg (h l : Int) (h0 : 0 ≤ l) (h1 : l < 18446744073709551616) (m : Mem) (n : Nat) :
    callF TA 53 [.agg [I h, U l]] m n = some (.agg [I (subH 0 0 h l), U ((0 - l) % 18446744073709551616)]) := by
  refine callF_of (Fn_ofK (fn := F53) rfl (by simp [F53]) ?_)
  have e := v_wSub 0 0 h l (by omega) (by omega) h0 h1
  try simp only [r53_0, r53_1, c53, F53, e, go_sem, Int.reduceTMod, Int.reduceTDiv, Int.reduceDiv, Int.reduceMod, Int.reduceAdd, Int.reduceSub, Int.reduceMul, Int.reduceNeg, Int.reducePow, Int.reduceEq, ↓reduceIte, Nat.reduceEqDiff, Nat.reduceAdd, Nat.reduceMul, Nat.reduceLeDiff, Nat.reduceSub, Nat.reduceLT, Int.reduceToNat, Int.reduceLT, Int.reduceLE, reduceCtorEq]
  repeat' ((first | refine FK_split (fun h_ => ?_) (fun h_ => ?_) | refine GK_split (fun h_ => ?_) (fun h_ => ?_) | refine ite_both (fun h_ => ?_) (fun h_ => ?_)) <;> (try simp only [decide_eq_true_eq, decide_eq_false_iff_not, Bool.not_true, Bool.not_false, Bool.not_eq_true', Bool.not_eq_false', Bool.not_eq_eq_eq_not, Decidable.not_not] at h_) <;> (try simp only [r53_0, r53_1, c53, F53, e, h_, go_sem, Int.reduceTMod, Int.reduceTDiv, Int.reduceDiv, Int.reduceMod, Int.reduceAdd, Int.reduceSub, Int.reduceMul, Int.reduceNeg, Int.reducePow, Int.reduceEq, ↓reduceIte, Nat.reduceEqDiff, Nat.reduceAdd, Nat.reduceMul, Nat.reduceLeDiff, Nat.reduceSub, Nat.reduceLT, Int.reduceToNat, Int.reduceLT, Int.reduceLE, reduceCtorEq]))
theorem v_wInt (h l : Int) (h0 : 0 ≤ l) (h1 : l < 18446744073709551616) (m : Mem) (n : Nat) :
    callF TA 54 [.agg [I h, U l]] m n = some (if h = IntKind.i64.wrap l / 9223372036854775808 then .tup [RI (IntKind.i64.wrap l), RB true] else .tup [RI 0, RB false]) := by
  refine callF_of (Fn_ofK (fn := F54) rfl (by simp [F54]) ?_)
  obtain ⟨t, ht⟩ : ∃ t, t = IntKind.i64.wrap l := ⟨_, rfl⟩
  have hb : (-9223372036854775808 ≤ t ∧ t ≤ 9223372036854775807) ∧ t % 18446744073709551616 = l := by rw [ht, wrapI]; unfold Go.RowKit.wrap64; omega
  have o := v_Of t hb.1.1 hb.1.2
  rw [hb.2] at o
  by_cases c : h = t / 9223372036854775808
  · have c' : (h == t / 9223372036854775808) = true := by simpa using c
    rw [if_pos (by rw [← ht]; exact c)]
    try simp only [r54_0, r54_1, r54_2, r54_3, r54_4, c54, F54, ← ht, o, c', Bool.and_self, Bool.and_true, Bool.true_and, go_sem, Int.reduceTMod, Int.reduceTDiv, Int.reduceDiv, Int.reduceMod, Int.reduceAdd, Int.reduceSub, Int.reduceMul, Int.reduceNeg, Int.reducePow, Int.reduceEq, ↓reduceIte, Nat.reduceEqDiff, Nat.reduceAdd, Nat.reduceMul, Nat.reduceLeDiff, Nat.reduceSub, Nat.reduceLT, Int.reduceToNat, Int.reduceLT, Int.reduceLE, reduceCtorEq]
    repeat' ((first | refine FK_split (fun h_ => ?_) (fun h_ => ?_) | refine GK_split (fun h_ => ?_) (fun h_ => ?_) | refine ite_both (fun h_ => ?_) (fun h_ => ?_)) <;> (try simp only [decide_eq_true_eq, decide_eq_false_iff_not, Bool.not_true, Bool.not_false, Bool.not_eq_true', Bool.not_eq_false', Bool.not_eq_eq_eq_not, Decidable.not_not] at h_) <;> (try simp only [r54_0, r54_1, r54_2, r54_3, r54_4, c54, F54, ← ht, o, c', Bool.and_self, Bool.and_true, Bool.true_and, h_, go_sem, Int.reduceTMod, Int.reduceTDiv, Int.reduceDiv, Int.reduceMod, Int.reduceAdd, Int.reduceSub, Int.reduceMul, Int.reduceNeg, Int.reducePow, Int.reduceEq, ↓reduceIte, Nat.reduceEqDiff, Nat.reduceAdd, Nat.reduceMul, Nat.reduceLeDiff, Nat.reduceSub, Nat.reduceLT, Int.reduceToNat, Int.reduceLT, Int.reduceLE, reduceCtorEq]))
  · have c' : (h == t / 9223372036854775808) = false := by simpa using c
    rw [if_neg (by rw [← ht]; exact c)]
    try simp only [r54_0, r54_1, r54_2, r54_3, r54_4, c54, F54, ← ht, o, c', Bool.and_self, Bool.and_true, Bool.true_and, go_sem, Int.reduceTMod, Int.reduceTDiv, Int.reduceDiv, Int.reduceMod, Int.reduceAdd, Int.reduceSub, Int.reduceMul, Int.reduceNeg, Int.reducePow, Int.reduceEq, ↓reduceIte, Nat.reduceEqDiff, Nat.reduceAdd, Nat.reduceMul, Nat.reduceLeDiff, Nat.reduceSub, Nat.reduceLT, Int.reduceToNat, Int.reduceLT, Int.reduceLE, reduceCtorEq]
    repeat' ((first | refine FK_split (fun h_ => ?_) (fun h_ => ?_) | refine GK_split (fun h_ => ?_) (fun h_ => ?_) | refine ite_both (fun h_ => ?_) (fun h_ => ?_)) <;> (try simp only [decide_eq_true_eq, decide_eq_false_iff_not, Bool.not_true, Bool.not_false, Bool.not_eq_true', Bool.not_eq_false', Bool.not_eq_eq_eq_not, Decidable.not_not] at h_) <;> (try simp only [r54_0, r54_1, r54_2, r54_3, r54_4, c54, F54, ← ht, o, c', Bool.and_self, Bool.and_true, Bool.true_and, h_, go_sem, Int.reduceTMod, Int.reduceTDiv, Int.reduceDiv, Int.reduceMod, Int.reduceAdd, Int.reduceSub, Int.reduceMul, Int.reduceNeg, Int.reducePow, Int.reduceEq, ↓reduceIte, Nat.reduceEqDiff, Nat.reduceAdd, Nat.reduceMul, Nat.reduceLeDiff, Nat.reduceSub, Nat.reduceLT, Int.reduceToNat, Int.reduceLT, Int.reduceLE, reduceCtorEq]))
end Go.Proofs.Ytffhhgcgnillaaa.Sy
