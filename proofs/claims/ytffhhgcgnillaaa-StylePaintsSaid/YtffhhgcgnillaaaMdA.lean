/- Package wide walked: a quotient. Conditions: those that each theorem names. -/
import Derived.Test.YtffhhgcgnillaaaWdC
import Derived.Test.YtffhhgcgnillaaaStN
namespace Go.Proofs.Ytffhhgcgnillaaa.Sy
open Go Go.Proofs
set_option linter.unusedSimpArgs false
set_option linter.unusedVariables false
set_option maxRecDepth 20000
attribute [local go_sem] XK_seq XK_block XK_skip XK_exit XK_ret XK_cond XK_reg XK_dreg XK_ureg KN_seq KN_blk KN_lp KN_chk KN_chku KN_top KN_fin KX_seq KX_lp KX_blk KX_chk KX_top KR_seq KR_blk KR_lp KR_chk KR_top KR_fin FK_true FK_false RK_nil RK_mv RK_pick RK_alloc RK_box RK_build RK_bslice RK_load1 RK_loadA RK_store RK_nilchk RK_bin RK_beq RK_eqv RK_eqnil RK_un RK_conv RK_mkfn RK_mkslice RK_slS RK_slA RK_fadr RK_fld RK_iadrA RK_iadrS RK_idxA RK_istr RK_ext RK_lenC RK_cap RK_app RK_appz RK_pre RK_cpy RK_mn RK_mx RK_len RK_carry RK_clr carryR um0 um1 ThenK_some RK_guard GK_tt GK_ff GK_tf GK_ft GK_none QK_some RK_callQ RK_callZ RK_callT TK_some VK_clo RK_callV
  evalOp evO evOs upd_at unfrz_at putE_some putE_none boolOf_b boolOf_tup Option.map_some evRes pack_one pack_two pack_three pack_none List.getD_cons_zero List.getD_cons_succ getD_nil
  Option.some.injEq exists_eq_left' Reg.cs? fillC setL List.set_cons_zero List.set_cons_succ List.length_cons List.length_nil rd_upd rd_updn rdB wr List.drop_zero List.drop_succ_cons List.take_succ_cons List.take_zero List.getElem?_cons_zero List.getElem?_cons_succ
  ix Int.toNat_zero lenO_sl lenO_nil nadd na_eq na_eq' na_lt na_ee na_ll na_ne na_ne' na_tt
attribute [local go_sem] Reg.flat_one Reg.flat_agg Reg.flat_tup flats_nil flats_cons Cell.flat_sc Cell.flat_ptr List.all_cons List.all_nil disOk safeOk safeR decide_eq_true_eq decide_eq_false_iff_not
  List.map_cons List.map_nil List.cons_append List.nil_append List.append_nil evalOp.capsOf Bool.false_bne Bool.bne_false Bool.true_bne Bool.bne_true bne_self_eq_false beq_self_eq_true Bool.not_not Bool.false_and Bool.and_false Bool.true_or Bool.or_true beq_iff_eq eqCells
  Bool.true_beq Bool.false_beq Bool.not_eq_true' Bool.not_eq_eq_eq_not Bool.not_eq_false' and_false false_and frz_at idOf noId Option.isSome_some Bool.and_eq_true
attribute [local go_sem] wr_eq bV_add bV_sub bV_mul bV_eql bV_neq bV_lss bV_leq bV_gtr bV_geq bV_quo bV_rem bV_shr bV_shl uV_not uV_neg wrapU bits_and bits_or bits_xor IntKind.bits Nat.min_eq_left Nat.min_eq_right Nat.min_self
attribute [local go_sem] bne_iff_ne Int.cast_ofNat_Int Nat.zero_add Nat.add_zero and_self and_true true_and ne_eq not_false_eq_true not_true_eq_false decide_true decide_false Bool.false_eq_true Bool.not_true Bool.not_false Bool.true_and Bool.and_true Bool.or_false Bool.false_or Bool.and_self

theorem v_size (x : Int) (h0 : -9223372036854775808 ≤ x) (h1 : x ≤ 9223372036854775807) (m : Mem) (n : Nat) : callF TA 49 [RI x] m n = some (RU (if x < 0 then -x else x)) := by
  refine callF_of (Fn_ofK (fn := F49) rfl (by simp [F49]) ?_)
  by_cases c : x < 0
  · have e : (0 - x % 18446744073709551616) % 18446744073709551616 = -x := by omega
    try simp only [r49_0, r49_1, r49_2, r49_3, c49, F49, c, e, go_sem, Int.reduceTMod, Int.reduceTDiv, Int.reduceDiv, Int.reduceMod, Int.reduceAdd, Int.reduceSub, Int.reduceMul, Int.reduceNeg, Int.reducePow, Int.reduceEq, ↓reduceIte, Nat.reduceEqDiff, Nat.reduceAdd, Nat.reduceMul, Nat.reduceLeDiff, Nat.reduceSub, Nat.reduceLT, Int.reduceToNat, Int.reduceLT, Int.reduceLE, reduceCtorEq]
    repeat' ((first | refine FK_split (fun h_ => ?_) (fun h_ => ?_) | refine GK_split (fun h_ => ?_) (fun h_ => ?_) | refine ite_both (fun h_ => ?_) (fun h_ => ?_)) <;> (try simp only [decide_eq_true_eq, decide_eq_false_iff_not, Bool.not_true, Bool.not_false, Bool.not_eq_true', Bool.not_eq_false', Bool.not_eq_eq_eq_not, Decidable.not_not] at h_) <;> (try simp only [r49_0, r49_1, r49_2, r49_3, c49, F49, c, e, h_, go_sem, Int.reduceTMod, Int.reduceTDiv, Int.reduceDiv, Int.reduceMod, Int.reduceAdd, Int.reduceSub, Int.reduceMul, Int.reduceNeg, Int.reducePow, Int.reduceEq, ↓reduceIte, Nat.reduceEqDiff, Nat.reduceAdd, Nat.reduceMul, Nat.reduceLeDiff, Nat.reduceSub, Nat.reduceLT, Int.reduceToNat, Int.reduceLT, Int.reduceLE, reduceCtorEq]))
  · have e : x % 18446744073709551616 = x := by omega
    try simp only [r49_0, r49_1, r49_2, r49_3, c49, F49, c, e, go_sem, Int.reduceTMod, Int.reduceTDiv, Int.reduceDiv, Int.reduceMod, Int.reduceAdd, Int.reduceSub, Int.reduceMul, Int.reduceNeg, Int.reducePow, Int.reduceEq, ↓reduceIte, Nat.reduceEqDiff, Nat.reduceAdd, Nat.reduceMul, Nat.reduceLeDiff, Nat.reduceSub, Nat.reduceLT, Int.reduceToNat, Int.reduceLT, Int.reduceLE, reduceCtorEq]
    repeat' ((first | refine FK_split (fun h_ => ?_) (fun h_ => ?_) | refine GK_split (fun h_ => ?_) (fun h_ => ?_) | refine ite_both (fun h_ => ?_) (fun h_ => ?_)) <;> (try simp only [decide_eq_true_eq, decide_eq_false_iff_not, Bool.not_true, Bool.not_false, Bool.not_eq_true', Bool.not_eq_false', Bool.not_eq_eq_eq_not, Decidable.not_not] at h_) <;> (try simp only [r49_0, r49_1, r49_2, r49_3, c49, F49, c, e, h_, go_sem, Int.reduceTMod, Int.reduceTDiv, Int.reduceDiv, Int.reduceMod, Int.reduceAdd, Int.reduceSub, Int.reduceMul, Int.reduceNeg, Int.reducePow, Int.reduceEq, ↓reduceIte, Nat.reduceEqDiff, Nat.reduceAdd, Nat.reduceMul, Nat.reduceLeDiff, Nat.reduceSub, Nat.reduceLT, Int.reduceToNat, Int.reduceLT, Int.reduceLE, reduceCtorEq]))
theorem v_Div64 (lo y : Int) (h0 : 0 ≤ lo) (h1 : lo < 18446744073709551616) (hy : 0 < y) (m : Mem) (n : Nat) : callF TA 50 [RU 0, RU lo, RU y] m n = some (.tup [RU (lo / y), RU (lo % y)]) := by
  refine callF_of (Fn_ofK (fn := F50) rfl (by simp [F50]) ?_)
  have z : (y = 0) = False := eq_false (by omega)
  have z2 : (y ≤ 0) = False := eq_false (by omega)
  have e1 : lo.tdiv y = lo / y := Int.tdiv_eq_ediv_of_nonneg h0
  have e2 : lo.tmod y = lo % y := Int.tmod_eq_emod_of_nonneg h0
  have e3 : lo / y % 18446744073709551616 = lo / y := by
    have k1 := Int.ediv_le_self y h0
    have k2 := Int.ediv_nonneg h0 (Int.le_of_lt hy)
    omega
  try simp only [r50_0, r50_1, r50_2, r50_3, r50_4, r50_5, r50_6, r50_7, r50_8, r50_9, r50_10, r50_11, r50_12, r50_13, r50_14, r50_15, r50_16, r50_17, r50_18, r50_19, r50_20, r50_21, r50_22, r50_23, r50_24, r50_25, r50_26, r50_27, r50_28, c50, F50, z, z2, e1, e2, e3, go_sem, Int.reduceTMod, Int.reduceTDiv, Int.reduceDiv, Int.reduceMod, Int.reduceAdd, Int.reduceSub, Int.reduceMul, Int.reduceNeg, Int.reducePow, Int.reduceEq, ↓reduceIte, Nat.reduceEqDiff, Nat.reduceAdd, Nat.reduceMul, Nat.reduceLeDiff, Nat.reduceSub, Nat.reduceLT, Int.reduceToNat, Int.reduceLT, Int.reduceLE, reduceCtorEq]
  repeat' ((first | refine FK_split (fun h_ => ?_) (fun h_ => ?_) | refine GK_split (fun h_ => ?_) (fun h_ => ?_) | refine ite_both (fun h_ => ?_) (fun h_ => ?_)) <;> (try simp only [decide_eq_true_eq, decide_eq_false_iff_not, Bool.not_true, Bool.not_false, Bool.not_eq_true', Bool.not_eq_false', Bool.not_eq_eq_eq_not, Decidable.not_not] at h_) <;> (try simp only [r50_0, r50_1, r50_2, r50_3, r50_4, r50_5, r50_6, r50_7, r50_8, r50_9, r50_10, r50_11, r50_12, r50_13, r50_14, r50_15, r50_16, r50_17, r50_18, r50_19, r50_20, r50_21, r50_22, r50_23, r50_24, r50_25, r50_26, r50_27, r50_28, c50, F50, z, z2, e1, e2, e3, h_, go_sem, Int.reduceTMod, Int.reduceTDiv, Int.reduceDiv, Int.reduceMod, Int.reduceAdd, Int.reduceSub, Int.reduceMul, Int.reduceNeg, Int.reducePow, Int.reduceEq, ↓reduceIte, Nat.reduceEqDiff, Nat.reduceAdd, Nat.reduceMul, Nat.reduceLeDiff, Nat.reduceSub, Nat.reduceLT, Int.reduceToNat, Int.reduceLT, Int.reduceLE, reduceCtorEq]))
/-- One times b over d, rounded down (d above 0). -/
theorem v_MulDiv1 (b d : Int) (hb : -4611686018427387904 ≤ b ∧ b ≤ 4611686018427387904) (hd : 0 < d) (hd2 : d ≤ 4611686018427387904) (m : Mem) (n : Nat) :
    ∃ ex : Bool, callF TA 43 [RI 1, RI b, RI d] m n = some (.tup [RI (b / d), RB ex, RI 0]) := by
  obtain ⟨B, hB⟩ : ∃ B, B = (if b < 0 then -b else b) := ⟨_, rfl⟩
  have s1 := v_size 1 (by decide) (by decide)
  rw [if_neg (by decide)] at s1
  have s2 := v_size b (by omega) (by omega)
  rw [← hB] at s2
  have s3 := v_size d (by omega) (by omega)
  rw [if_neg (by omega)] at s3
  have hB0 : 0 ≤ B ∧ B ≤ 4611686018427387904 := by rw [hB]; split <;> omega
  have m1 := v_Mul64 1 B (by decide) (by decide) hB0.1 (by omega)
  rw [show 1 * B / 18446744073709551616 = 0 by omega, show 1 * B % 18446744073709551616 = B by omega] at m1
  have dv := v_Div64 B d hB0.1 (by omega) hd
  have q0 := Int.ediv_nonneg hB0.1 (Int.le_of_lt hd)
  have q1 := Int.ediv_le_self d hB0.1
  have r0 := Int.emod_nonneg B (Int.ne_of_gt hd)
  have r1 := Int.emod_lt_of_pos B hd
  have eB := Int.mul_ediv_add_emod B d
  have z : (d = 0) = False := eq_false (by omega)
  have z2 : (d ≤ 0) = False := eq_false (by omega)
  have z3 : (d < 0) = False := eq_false (by omega)
  have one := v_Of 1 (by decide) (by decide)
  have ints : ∀ x : Int, -4611686018427387905 ≤ x → x ≤ 4611686018427387905 → ∀ m n, callF TA 54 [.agg [I (x / 18446744073709551616), U (x % 18446744073709551616)]] m n = some (.tup [RI x, RB true]) := by
    intro x hx1 hx2 m n
    rw [v_wInt _ _ (by omega) (by omega)]
    have ew : IntKind.i64.wrap (x % 18446744073709551616) = x := by rw [wrapI]; unfold Go.RowKit.wrap64; omega
    rw [ew, if_pos (by omega)]
  generalize hq : B / d = q at *
  generalize hr : B % d = r at *
  by_cases c : b < 0
  · have hBb : B = -b := by rw [hB, if_pos c]
    by_cases c2 : 0 < r
    · have e : b / d = -(q + 1) := by
        have : b = (d - r) + d * (-(q + 1)) := by rw [Int.mul_neg, Int.mul_add]; omega
        rw [this, Int.add_mul_ediv_left _ _ (by omega), Int.ediv_eq_zero_of_lt (by omega) (by omega)]
        omega
      have ad := v_wAdd 0 q 0 1 q0 (by omega) (by decide) (by decide)
      have a1 : addH 0 q 0 1 = 0 := by
        unfold addH
        rw [show 0 + 0 + (q + 1) / 18446744073709551616 = 0 by omega]
        rfl
      rw [a1, show (q + 1) % 18446744073709551616 = q + 1 by omega] at ad
      have ng := v_wNeg 0 (q + 1) (by omega) (by omega)
      have n1 : subH 0 0 0 (q + 1) = b / d / 18446744073709551616 := by
        unfold subH
        rw [if_pos (by omega), e]
        have : IntKind.i64.wrap (0 - 0 - 1) = -1 := rfl
        rw [this]; omega
      have n2 : (0 - (q + 1)) % 18446744073709551616 = b / d % 18446744073709551616 := by rw [e]; omega
      rw [n1, n2] at ng
      have it := ints (b / d) (by omega) (by omega)
      refine ⟨decide (r = 0), callF_of (Fn_ofK (fn := F43) rfl (by simp [F43]) ?_)⟩
      try simp only [r43_0, r43_1, r43_2, r43_3, r43_4, r43_5, r43_6, r43_7, r43_8, r43_9, r43_10, r43_11, r43_12, r43_13, r43_14, r43_15, c43, F43, s1, s2, s3, m1, dv, z, z2, z3, c, c2, one, ad, ng, it, go_sem, Int.reduceTMod, Int.reduceTDiv, Int.reduceDiv, Int.reduceMod, Int.reduceAdd, Int.reduceSub, Int.reduceMul, Int.reduceNeg, Int.reducePow, Int.reduceEq, ↓reduceIte, Nat.reduceEqDiff, Nat.reduceAdd, Nat.reduceMul, Nat.reduceLeDiff, Nat.reduceSub, Nat.reduceLT, Int.reduceToNat, Int.reduceLT, Int.reduceLE, reduceCtorEq]
      repeat' ((first | refine FK_split (fun h_ => ?_) (fun h_ => ?_) | refine GK_split (fun h_ => ?_) (fun h_ => ?_) | refine ite_both (fun h_ => ?_) (fun h_ => ?_)) <;> (try simp only [decide_eq_true_eq, decide_eq_false_iff_not, Bool.not_true, Bool.not_false, Bool.not_eq_true', Bool.not_eq_false', Bool.not_eq_eq_eq_not, Decidable.not_not] at h_) <;> (try simp only [r43_0, r43_1, r43_2, r43_3, r43_4, r43_5, r43_6, r43_7, r43_8, r43_9, r43_10, r43_11, r43_12, r43_13, r43_14, r43_15, c43, F43, s1, s2, s3, m1, dv, z, z2, z3, c, c2, one, ad, ng, it, h_, go_sem, Int.reduceTMod, Int.reduceTDiv, Int.reduceDiv, Int.reduceMod, Int.reduceAdd, Int.reduceSub, Int.reduceMul, Int.reduceNeg, Int.reducePow, Int.reduceEq, ↓reduceIte, Nat.reduceEqDiff, Nat.reduceAdd, Nat.reduceMul, Nat.reduceLeDiff, Nat.reduceSub, Nat.reduceLT, Int.reduceToNat, Int.reduceLT, Int.reduceLE, reduceCtorEq]))
    · have hr0 : r = 0 := by omega
      have e : b / d = -q := by
        have : b = d * (-q) := by rw [Int.mul_neg]; omega
        rw [this, Int.mul_ediv_cancel_left _ (by omega)]
      have ng := v_wNeg 0 q q0 (by omega)
      have n1 : subH 0 0 0 q = b / d / 18446744073709551616 := by
        unfold subH
        rw [e]
        by_cases cq : 0 < q
        · rw [if_pos cq]
          have : IntKind.i64.wrap (0 - 0 - 1) = -1 := rfl
          rw [this]; omega
        · rw [if_neg cq]
          have : IntKind.i64.wrap (0 - 0 - 0) = 0 := rfl
          rw [this]; omega
      have n2 : (0 - q) % 18446744073709551616 = b / d % 18446744073709551616 := by rw [e]; omega
      rw [n1, n2] at ng
      have it := ints (b / d) (by omega) (by omega)
      refine ⟨decide (r = 0), callF_of (Fn_ofK (fn := F43) rfl (by simp [F43]) ?_)⟩
      try simp only [r43_0, r43_1, r43_2, r43_3, r43_4, r43_5, r43_6, r43_7, r43_8, r43_9, r43_10, r43_11, r43_12, r43_13, r43_14, r43_15, c43, F43, s1, s2, s3, m1, dv, z, z2, z3, c, c2, one, ng, it, go_sem, Int.reduceTMod, Int.reduceTDiv, Int.reduceDiv, Int.reduceMod, Int.reduceAdd, Int.reduceSub, Int.reduceMul, Int.reduceNeg, Int.reducePow, Int.reduceEq, ↓reduceIte, Nat.reduceEqDiff, Nat.reduceAdd, Nat.reduceMul, Nat.reduceLeDiff, Nat.reduceSub, Nat.reduceLT, Int.reduceToNat, Int.reduceLT, Int.reduceLE, reduceCtorEq]
      repeat' ((first | refine FK_split (fun h_ => ?_) (fun h_ => ?_) | refine GK_split (fun h_ => ?_) (fun h_ => ?_) | refine ite_both (fun h_ => ?_) (fun h_ => ?_)) <;> (try simp only [decide_eq_true_eq, decide_eq_false_iff_not, Bool.not_true, Bool.not_false, Bool.not_eq_true', Bool.not_eq_false', Bool.not_eq_eq_eq_not, Decidable.not_not] at h_) <;> (try simp only [r43_0, r43_1, r43_2, r43_3, r43_4, r43_5, r43_6, r43_7, r43_8, r43_9, r43_10, r43_11, r43_12, r43_13, r43_14, r43_15, c43, F43, s1, s2, s3, m1, dv, z, z2, z3, c, c2, one, ng, it, h_, go_sem, Int.reduceTMod, Int.reduceTDiv, Int.reduceDiv, Int.reduceMod, Int.reduceAdd, Int.reduceSub, Int.reduceMul, Int.reduceNeg, Int.reducePow, Int.reduceEq, ↓reduceIte, Nat.reduceEqDiff, Nat.reduceAdd, Nat.reduceMul, Nat.reduceLeDiff, Nat.reduceSub, Nat.reduceLT, Int.reduceToNat, Int.reduceLT, Int.reduceLE, reduceCtorEq]))
  · have hBb : B = b := by rw [hB, if_neg c]
    have e : b / d = q := by rw [← hq, hBb]
    have it := ints (b / d) (by omega) (by omega)
    rw [show b / d / 18446744073709551616 = 0 by omega, show b / d % 18446744073709551616 = q by omega] at it
    refine ⟨decide (r = 0), callF_of (Fn_ofK (fn := F43) rfl (by simp [F43]) ?_)⟩
    try simp only [r43_0, r43_1, r43_2, r43_3, r43_4, r43_5, r43_6, r43_7, r43_8, r43_9, r43_10, r43_11, r43_12, r43_13, r43_14, r43_15, c43, F43, s1, s2, s3, m1, dv, z, z2, z3, c, it, go_sem, Int.reduceTMod, Int.reduceTDiv, Int.reduceDiv, Int.reduceMod, Int.reduceAdd, Int.reduceSub, Int.reduceMul, Int.reduceNeg, Int.reducePow, Int.reduceEq, ↓reduceIte, Nat.reduceEqDiff, Nat.reduceAdd, Nat.reduceMul, Nat.reduceLeDiff, Nat.reduceSub, Nat.reduceLT, Int.reduceToNat, Int.reduceLT, Int.reduceLE, reduceCtorEq]
    repeat' ((first | refine FK_split (fun h_ => ?_) (fun h_ => ?_) | refine GK_split (fun h_ => ?_) (fun h_ => ?_) | refine ite_both (fun h_ => ?_) (fun h_ => ?_)) <;> (try simp only [decide_eq_true_eq, decide_eq_false_iff_not, Bool.not_true, Bool.not_false, Bool.not_eq_true', Bool.not_eq_false', Bool.not_eq_eq_eq_not, Decidable.not_not] at h_) <;> (try simp only [r43_0, r43_1, r43_2, r43_3, r43_4, r43_5, r43_6, r43_7, r43_8, r43_9, r43_10, r43_11, r43_12, r43_13, r43_14, r43_15, c43, F43, s1, s2, s3, m1, dv, z, z2, z3, c, it, h_, go_sem, Int.reduceTMod, Int.reduceTDiv, Int.reduceDiv, Int.reduceMod, Int.reduceAdd, Int.reduceSub, Int.reduceMul, Int.reduceNeg, Int.reducePow, Int.reduceEq, ↓reduceIte, Nat.reduceEqDiff, Nat.reduceAdd, Nat.reduceMul, Nat.reduceLeDiff, Nat.reduceSub, Nat.reduceLT, Int.reduceToNat, Int.reduceLT, Int.reduceLE, reduceCtorEq]))
end Go.Proofs.Ytffhhgcgnillaaa.Sy
