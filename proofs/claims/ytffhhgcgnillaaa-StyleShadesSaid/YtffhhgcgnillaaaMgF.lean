import Derived.Test.YtffhhgcgnillaaaMgE
/- Package wide walked: a quotient. Conditions: those that each theorem names. -/
namespace Go.Proofs.Ytffhhgcgnillaaa.Sy
open Go Go.Proofs
set_option linter.unusedSimpArgs false
set_option linter.unusedVariables false
set_option maxRecDepth 20000
attribute [local go_sem] XK_seq XK_block XK_skip XK_exit XK_ret XK_cond XK_reg XK_dreg XK_ureg KN_seq KN_blk KN_lp KN_chk KN_chku KN_top KN_fin KX_seq KX_lp KX_blk KX_chk KX_top KR_seq KR_blk KR_lp KR_chk KR_top KR_fin FK_true FK_false RK_nil RK_mv RK_pick RK_alloc RK_box RK_build RK_bslice RK_load1 RK_loadA RK_store RK_nilchk RK_bin RK_beq RK_eqv RK_eqnil RK_un RK_conv RK_mkfn RK_mkslice RK_slS RK_slA RK_fadr RK_fld RK_iadrA RK_iadrS RK_idxA RK_istr RK_ext RK_lenC RK_cap RK_app RK_appz RK_pre RK_cpy RK_mn RK_mx RK_len RK_carry RK_clr carryR um0 um1 ThenK_some RK_guard GK_tt GK_ff GK_tf GK_ft GK_none QK_some RK_callQ RK_callZ RK_callT TK_some VK_clo RK_callV
  evalOp evO evOs upd_at unfrz_at putE_some putE_none boolOf_b boolOf_tup Option.map_some evRes pack_one pack_two pack_three pack_none List.getD_cons_zero List.getD_cons_succ getD_nil
  Option.some.injEq exists_eq_left' Reg.cs? fillC setL List.set_cons_zero List.set_cons_succ List.length_cons List.length_nil rd_upd rd_updn rdB wr List.drop_zero List.drop_succ_cons List.take_succ_cons List.take_zero List.getElem?_cons_zero List.getElem?_cons_succ
  ix Int.toNat_zero lenO_sl lenO_nil nadd na_eq na_eq' na_lt na_ee na_ll na_ne na_ne' na_tt
attribute [local go_sem] Reg.flat_one Reg.flat_agg Reg.flat_tup flats_nil flats_cons Cell.flat_sc Cell.flat_ptr List.all_cons List.all_nil disOk safeOk safeR decide_eq_true_eq decide_eq_false_iff_not
  List.map_cons List.map_nil List.cons_append List.nil_append List.append_nil evalOp.capsOf Bool.false_bne Bool.bne_false Bool.true_bne Bool.bne_true bne_self_eq_false beq_self_eq_true Bool.not_not Bool.false_and Bool.and_false Bool.true_or Bool.or_true beq_iff_eq eqCells
  Bool.true_beq Bool.false_beq Bool.not_eq_true' Bool.not_eq_eq_eq_not Bool.not_eq_false' and_false false_and frz_at idOf noId Option.isSome_some Bool.and_eq_true
attribute [local go_sem] wr_eq bV_add bV_sub bV_mul bV_eql bV_neq bV_lss bV_leq bV_gtr bV_geq bV_quo bV_rem bV_shr bV_shl uV_not uV_neg wrapU bits_and bits_or bits_xor IntKind.bits Nat.min_eq_left Nat.min_eq_right Nat.min_self
attribute [local go_sem] bne_iff_ne Int.cast_ofNat_Int Nat.zero_add Nat.add_zero and_self and_true true_and ne_eq not_false_eq_true not_true_eq_false decide_true decide_false Bool.false_eq_true Bool.not_true Bool.not_false Bool.true_and Bool.and_true Bool.or_false Bool.false_or Bool.and_self

theorem v_size (x : Int) (h0 : -9223372036854775808 ≤ x) (h1 : x ≤ 9223372036854775807) (m : Mem) (n : Nat) : callF TA 49 [RI x] m n = some (RU (if x < 0 then -x else x)) := by
  refine callF_of (Fn_ofK (fn := F49) rfl (by simp [F49]) ?_)
  by_cases c : x < 0
  · have e : (0 - x % 18446744073709551616) % 18446744073709551616 = -x := by omega
    try simp only [r49_0, r49_1, r49_2, r49_3, c49, F49, c, e, go_sem, Int.reduceTMod, Int.reduceTDiv, Int.reduceDiv, Int.reduceMod, Int.reduceAdd, Int.reduceSub, Int.reduceMul, Int.reduceNeg, Int.reducePow, Int.reduceEq, ↓reduceIte, Nat.reduceEqDiff, Nat.reduceAdd, Nat.reduceMul, Nat.reduceLeDiff, Nat.reduceSub, Nat.reduceLT, Int.reduceToNat, Int.reduceLT, Int.reduceLE, reduceCtorEq]
    repeat' ((first | refine FK_split (fun h_ => ?_) (fun h_ => ?_) | refine GK_split (fun h_ => ?_) (fun h_ => ?_) | refine ite_both (fun h_ => ?_) (fun h_ => ?_)) <;> (try simp only [decide_eq_true_eq, decide_eq_false_iff_not, Bool.not_true, Bool.not_false, Bool.not_eq_true', Bool.not_eq_false', Bool.not_eq_eq_eq_not, Decidable.not_not] at h_) <;> (try simp only [r49_0, r49_1, r49_2, r49_3, c49, F49, c, e, h_, go_sem, Int.reduceTMod, Int.reduceTDiv, Int.reduceDiv, Int.reduceMod, Int.reduceAdd, Int.reduceSub, Int.reduceMul, Int.reduceNeg, Int.reducePow, Int.reduceEq, ↓reduceIte, Nat.reduceEqDiff, Nat.reduceAdd, Nat.reduceMul, Nat.reduceLeDiff, Nat.reduceSub, Nat.reduceLT, Int.reduceToNat, Int.reduceLT, Int.reduceLE, reduceCtorEq]))
  · have e : x % 18446744073709551616 = x := by omega
    try simp only [r49_0, r49_1, r49_2, r49_3, c49, F49, c, e, go_sem, Int.reduceTMod, Int.reduceTDiv, Int.reduceDiv, Int.reduceMod, Int.reduceAdd, Int.reduceSub, Int.reduceMul, Int.reduceNeg, Int.reducePow, Int.reduceEq, ↓reduceIte, Nat.reduceEqDiff, Nat.reduceAdd, Nat.reduceMul, Nat.reduceLeDiff, Nat.reduceSub, Nat.reduceLT, Int.reduceToNat, Int.reduceLT, Int.reduceLE, reduceCtorEq]
    repeat' ((first | refine FK_split (fun h_ => ?_) (fun h_ => ?_) | refine GK_split (fun h_ => ?_) (fun h_ => ?_) | refine ite_both (fun h_ => ?_) (fun h_ => ?_)) <;> (try simp only [decide_eq_true_eq, decide_eq_false_iff_not, Bool.not_true, Bool.not_false, Bool.not_eq_true', Bool.not_eq_false', Bool.not_eq_eq_eq_not, Decidable.not_not] at h_) <;> (try simp only [r49_0, r49_1, r49_2, r49_3, c49, F49, c, e, h_, go_sem, Int.reduceTMod, Int.reduceTDiv, Int.reduceDiv, Int.reduceMod, Int.reduceAdd, Int.reduceSub, Int.reduceMul, Int.reduceNeg, Int.reducePow, Int.reduceEq, ↓reduceIte, Nat.reduceEqDiff, Nat.reduceAdd, Nat.reduceMul, Nat.reduceLeDiff, Nat.reduceSub, Nat.reduceLT, Int.reduceToNat, Int.reduceLT, Int.reduceLE, reduceCtorEq]))
theorem v_Div64 (lo y : Int) (h0 : 0 ≤ lo) (h1 : lo < 18446744073709551616) (hy : 0 < y) (m : Mem) (n : Nat) : callF TA 50 [RU 0, RU lo, RU y] m n = some (.tup [RU (lo / y), RU (lo % y)]) := by
  refine callF_of (Fn_ofK (fn := F50) rfl (by simp [F50]) ?_)
  have z : (y = 0) = False := eq_false (by omega)
  have z2 : (y ≤ 0) = False := eq_false (by omega)
  have e1 : lo.tdiv y = lo / y := Int.tdiv_eq_ediv_of_nonneg h0
  have e2 : lo.tmod y = lo % y := Int.tmod_eq_emod_of_nonneg h0
  have e3 : lo / y % 18446744073709551616 = lo / y := by
    have k1 := Int.ediv_le_self y h0
    have k2 := Int.ediv_nonneg h0 (Int.le_of_lt hy)
    omega
  try simp only [r50_0, r50_1, r50_2, r50_3, r50_4, r50_5, r50_6, r50_7, r50_8, r50_9, r50_10, r50_11, r50_12, r50_13, r50_14, r50_15, r50_16, r50_17, r50_18, r50_19, r50_20, r50_21, r50_22, r50_23, r50_24, r50_25, r50_26, r50_27, r50_28, c50, F50, z, z2, e1, e2, e3, go_sem, Int.reduceTMod, Int.reduceTDiv, Int.reduceDiv, Int.reduceMod, Int.reduceAdd, Int.reduceSub, Int.reduceMul, Int.reduceNeg, Int.reducePow, Int.reduceEq, ↓reduceIte, Nat.reduceEqDiff, Nat.reduceAdd, Nat.reduceMul, Nat.reduceLeDiff, Nat.reduceSub, Nat.reduceLT, Int.reduceToNat, Int.reduceLT, Int.reduceLE, reduceCtorEq]
  repeat' ((first | refine FK_split (fun h_ => ?_) (fun h_ => ?_) | refine GK_split (fun h_ => ?_) (fun h_ => ?_) | refine ite_both (fun h_ => ?_) (fun h_ => ?_)) <;> (try simp only [decide_eq_true_eq, decide_eq_false_iff_not, Bool.not_true, Bool.not_false, Bool.not_eq_true', Bool.not_eq_false', Bool.not_eq_eq_eq_not, Decidable.not_not] at h_) <;> (try simp only [r50_0, r50_1, r50_2, r50_3, r50_4, r50_5, r50_6, r50_7, r50_8, r50_9, r50_10, r50_11, r50_12, r50_13, r50_14, r50_15, r50_16, r50_17, r50_18, r50_19, r50_20, r50_21, r50_22, r50_23, r50_24, r50_25, r50_26, r50_27, r50_28, c50, F50, z, z2, e1, e2, e3, h_, go_sem, Int.reduceTMod, Int.reduceTDiv, Int.reduceDiv, Int.reduceMod, Int.reduceAdd, Int.reduceSub, Int.reduceMul, Int.reduceNeg, Int.reducePow, Int.reduceEq, ↓reduceIte, Nat.reduceEqDiff, Nat.reduceAdd, Nat.reduceMul, Nat.reduceLeDiff, Nat.reduceSub, Nat.reduceLT, Int.reduceToNat, Int.reduceLT, Int.reduceLE, reduceCtorEq]))

/- Package wide walked: a product divided. Conditions: those that each theorem names. -/
open Go Go.Proofs
set_option linter.unusedSimpArgs false
set_option linter.unusedVariables false

theorem v_Div64A {h l y : Int} (hh : 0 ≤ h) (hy : h < y) (hyb : y < 18446744073709551616) (hl0 : 0 ≤ l) (hl1 : l < 18446744073709551616) (m : Mem) (n : Nat) :
    callF TA 50 [RU h, RU l, RU y] m n = some (.tup [RU ((h * 18446744073709551616 + l) / y), RU ((h * 18446744073709551616 + l) % y)]) := by
  by_cases c : h = 0
  · subst c
    rw [Int.zero_mul, Int.zero_add]
    exact v_Div64 l y hl0 hl1 hy m n
  · exact v_Div64W (by omega) hy hyb hl0 hl1 m n
/-- A product, divided, rounded down (d above 0). -/
theorem v_MulDivG (a b d : Int) (ha : -9223372036854775807 ≤ a ∧ a ≤ 9223372036854775807) (hb : -9223372036854775807 ≤ b ∧ b ≤ 9223372036854775807) (hd : 0 < d) (hd2 : d ≤ 4611686018427387904) (h1 : -(4611686018427387904 * d) ≤ a * b) (h2 : a * b ≤ 4611686018427387904 * d) (m : Mem) (n : Nat) :
    ∃ ex : Bool, callF TA 43 [RI a, RI b, RI d] m n = some (.tup [RI (a * b / d), RB ex, RI 0]) := by
  obtain ⟨A, hA⟩ : ∃ A, A = (if a < 0 then -a else a) := ⟨_, rfl⟩
  obtain ⟨B, hB⟩ : ∃ B, B = (if b < 0 then -b else b) := ⟨_, rfl⟩
  have s1 := v_size a (by omega) (by omega)
  rw [← hA] at s1
  have s2 := v_size b (by omega) (by omega)
  rw [← hB] at s2
  have s3 := v_size d (by omega) (by omega)
  rw [if_neg (by omega)] at s3
  have hA0 : 0 ≤ A ∧ A ≤ 9223372036854775807 := by rw [hA]; split <;> omega
  have hB0 : 0 ≤ B ∧ B ≤ 9223372036854775807 := by rw [hB]; split <;> omega
  have m1 := v_Mul64 A B hA0.1 (by omega) hB0.1 (by omega)
  obtain ⟨P, hP⟩ : ∃ P, P = A * B := ⟨_, rfl⟩
  rw [← hP] at m1
  have hP0 : 0 ≤ P := by rw [hP]; exact Int.mul_nonneg hA0.1 hB0.1
  have hPab : (a * b = P ∧ (decide (a < 0) = decide (b < 0))) ∨ (a * b = -P ∧ (decide (a < 0) = !decide (b < 0))) := by
    rw [hP, hA, hB]
    by_cases ca : a < 0 <;> by_cases cb : b < 0 <;> simp [ca, cb, Int.neg_mul, Int.mul_neg]
  have hPd : P ≤ 4611686018427387904 * d := by
    rcases hPab with ⟨e, _⟩ | ⟨e, _⟩ <;> omega
  have hh : P / 18446744073709551616 < d := by omega
  have dv := v_Div64A (h := P / 18446744073709551616) (l := P % 18446744073709551616) (y := d) (by omega) hh (by omega) (by omega) (by omega)
  rw [show P / 18446744073709551616 * 18446744073709551616 + P % 18446744073709551616 = P by omega] at dv
  have q0 := Int.ediv_nonneg hP0 (Int.le_of_lt hd)
  have q1 : P / d ≤ 4611686018427387904 := by
    have : P / d < 4611686018427387905 := Int.ediv_lt_of_lt_mul hd (by omega)
    omega
  have r0 := Int.emod_nonneg P (Int.ne_of_gt hd)
  have r1 := Int.emod_lt_of_pos P hd
  have eB := Int.mul_ediv_add_emod P d
  have z : (d = 0) = False := eq_false (by omega)
  have z2 : (d ≤ P / 18446744073709551616) = False := eq_false (by omega)
  have z3 : (d < 0) = False := eq_false (by omega)
  have one := v_Of 1 (by decide) (by decide)
  have ints : ∀ x : Int, -4611686018427387905 ≤ x → x ≤ 4611686018427387905 → ∀ m n, callF TA 54 [.agg [I (x / 18446744073709551616), U (x % 18446744073709551616)]] m n = some (.tup [RI x, RB true]) := by
    intro x hx1 hx2 m n
    rw [v_wInt _ _ (by omega) (by omega)]
    have ew : IntKind.i64.wrap (x % 18446744073709551616) = x := by rw [wrapI]; unfold Go.RowKit.wrap64; omega
    rw [ew, if_pos (by omega)]
  generalize hq : P / d = q at *
  generalize hr : P % d = r at *
  rcases hPab with ⟨hab, c⟩ | ⟨hab, c⟩
  · have e : a * b / d = q := by rw [← hq, hab]
    have it := ints (a * b / d) (by omega) (by omega)
    rw [show a * b / d / 18446744073709551616 = 0 by omega, show a * b / d % 18446744073709551616 = q by omega] at it
    rw [e] at it ⊢
    refine ⟨decide (r = 0), callF_of (Fn_ofK (fn := F43) rfl (by simp [F43]) ?_)⟩
    by_cases cb : b < 0
    · have ca : a < 0 := by simpa [cb] using c
      try simp only [r43_0, r43_1, r43_2, r43_3, r43_4, r43_5, r43_6, r43_7, r43_8, r43_9, r43_10, r43_11, r43_12, r43_13, r43_14, r43_15, c43, F43, s1, s2, s3, m1, dv, z, z2, z3, ca, cb, it, go_sem, Int.reduceTMod, Int.reduceTDiv, Int.reduceDiv, Int.reduceMod, Int.reduceAdd, Int.reduceSub, Int.reduceMul, Int.reduceNeg, Int.reducePow, Int.reduceEq, ↓reduceIte, Nat.reduceEqDiff, Nat.reduceAdd, Nat.reduceMul, Nat.reduceLeDiff, Nat.reduceSub, Nat.reduceLT, Int.reduceToNat, Int.reduceLT, Int.reduceLE, reduceCtorEq]
      repeat' ((first | refine FK_split (fun h_ => ?_) (fun h_ => ?_) | refine GK_split (fun h_ => ?_) (fun h_ => ?_) | refine ite_both (fun h_ => ?_) (fun h_ => ?_)) <;> (try simp only [decide_eq_true_eq, decide_eq_false_iff_not, Bool.not_true, Bool.not_false, Bool.not_eq_true', Bool.not_eq_false', Bool.not_eq_eq_eq_not, Decidable.not_not] at h_) <;> (try simp only [r43_0, r43_1, r43_2, r43_3, r43_4, r43_5, r43_6, r43_7, r43_8, r43_9, r43_10, r43_11, r43_12, r43_13, r43_14, r43_15, c43, F43, s1, s2, s3, m1, dv, z, z2, z3, ca, cb, it, h_, go_sem, Int.reduceTMod, Int.reduceTDiv, Int.reduceDiv, Int.reduceMod, Int.reduceAdd, Int.reduceSub, Int.reduceMul, Int.reduceNeg, Int.reducePow, Int.reduceEq, ↓reduceIte, Nat.reduceEqDiff, Nat.reduceAdd, Nat.reduceMul, Nat.reduceLeDiff, Nat.reduceSub, Nat.reduceLT, Int.reduceToNat, Int.reduceLT, Int.reduceLE, reduceCtorEq]))
    · have ca : ¬ a < 0 := by simpa [cb] using c
      try simp only [r43_0, r43_1, r43_2, r43_3, r43_4, r43_5, r43_6, r43_7, r43_8, r43_9, r43_10, r43_11, r43_12, r43_13, r43_14, r43_15, c43, F43, s1, s2, s3, m1, dv, z, z2, z3, ca, cb, it, go_sem, Int.reduceTMod, Int.reduceTDiv, Int.reduceDiv, Int.reduceMod, Int.reduceAdd, Int.reduceSub, Int.reduceMul, Int.reduceNeg, Int.reducePow, Int.reduceEq, ↓reduceIte, Nat.reduceEqDiff, Nat.reduceAdd, Nat.reduceMul, Nat.reduceLeDiff, Nat.reduceSub, Nat.reduceLT, Int.reduceToNat, Int.reduceLT, Int.reduceLE, reduceCtorEq]
      repeat' ((first | refine FK_split (fun h_ => ?_) (fun h_ => ?_) | refine GK_split (fun h_ => ?_) (fun h_ => ?_) | refine ite_both (fun h_ => ?_) (fun h_ => ?_)) <;> (try simp only [decide_eq_true_eq, decide_eq_false_iff_not, Bool.not_true, Bool.not_false, Bool.not_eq_true', Bool.not_eq_false', Bool.not_eq_eq_eq_not, Decidable.not_not] at h_) <;> (try simp only [r43_0, r43_1, r43_2, r43_3, r43_4, r43_5, r43_6, r43_7, r43_8, r43_9, r43_10, r43_11, r43_12, r43_13, r43_14, r43_15, c43, F43, s1, s2, s3, m1, dv, z, z2, z3, ca, cb, it, h_, go_sem, Int.reduceTMod, Int.reduceTDiv, Int.reduceDiv, Int.reduceMod, Int.reduceAdd, Int.reduceSub, Int.reduceMul, Int.reduceNeg, Int.reducePow, Int.reduceEq, ↓reduceIte, Nat.reduceEqDiff, Nat.reduceAdd, Nat.reduceMul, Nat.reduceLeDiff, Nat.reduceSub, Nat.reduceLT, Int.reduceToNat, Int.reduceLT, Int.reduceLE, reduceCtorEq]))
  · by_cases c2 : 0 < r
    · have e : a * b / d = -(q + 1) := by
        have : a * b = (d - r) + d * (-(q + 1)) := by rw [Int.mul_neg, Int.mul_add]; omega
        rw [this, Int.add_mul_ediv_left _ _ (by omega), Int.ediv_eq_zero_of_lt (by omega) (by omega)]
        omega
      have ad := v_wAdd 0 q 0 1 q0 (by omega) (by decide) (by decide)
      have a1 : addH 0 q 0 1 = 0 := by
        unfold addH
        rw [show 0 + 0 + (q + 1) / 18446744073709551616 = 0 by omega]
        rfl
      rw [a1, show (q + 1) % 18446744073709551616 = q + 1 by omega] at ad
      have ng := v_wNeg 0 (q + 1) (by omega) (by omega)
      rw [e]
      have n1 : subH 0 0 0 (q + 1) = -(q + 1) / 18446744073709551616 := by
        unfold subH
        rw [if_pos (by omega)]
        have : IntKind.i64.wrap (0 - 0 - 1) = -1 := rfl
        rw [this]; omega
      have n2 : (0 - (q + 1)) % 18446744073709551616 = -(q + 1) % 18446744073709551616 := by omega
      rw [n1, n2] at ng
      have it := ints (-(q + 1)) (by omega) (by omega)
      refine ⟨decide (r = 0), callF_of (Fn_ofK (fn := F43) rfl (by simp [F43]) ?_)⟩
      by_cases cb : b < 0
      · have ca : ¬ a < 0 := by simpa [cb] using c
        try simp only [r43_0, r43_1, r43_2, r43_3, r43_4, r43_5, r43_6, r43_7, r43_8, r43_9, r43_10, r43_11, r43_12, r43_13, r43_14, r43_15, c43, F43, s1, s2, s3, m1, dv, z, z2, z3, ca, cb, c2, one, ad, ng, it, go_sem, Int.reduceTMod, Int.reduceTDiv, Int.reduceDiv, Int.reduceMod, Int.reduceAdd, Int.reduceSub, Int.reduceMul, Int.reduceNeg, Int.reducePow, Int.reduceEq, ↓reduceIte, Nat.reduceEqDiff, Nat.reduceAdd, Nat.reduceMul, Nat.reduceLeDiff, Nat.reduceSub, Nat.reduceLT, Int.reduceToNat, Int.reduceLT, Int.reduceLE, reduceCtorEq]
        repeat' ((first | refine FK_split (fun h_ => ?_) (fun h_ => ?_) | refine GK_split (fun h_ => ?_) (fun h_ => ?_) | refine ite_both (fun h_ => ?_) (fun h_ => ?_)) <;> (try simp only [decide_eq_true_eq, decide_eq_false_iff_not, Bool.not_true, Bool.not_false, Bool.not_eq_true', Bool.not_eq_false', Bool.not_eq_eq_eq_not, Decidable.not_not] at h_) <;> (try simp only [r43_0, r43_1, r43_2, r43_3, r43_4, r43_5, r43_6, r43_7, r43_8, r43_9, r43_10, r43_11, r43_12, r43_13, r43_14, r43_15, c43, F43, s1, s2, s3, m1, dv, z, z2, z3, ca, cb, c2, one, ad, ng, it, h_, go_sem, Int.reduceTMod, Int.reduceTDiv, Int.reduceDiv, Int.reduceMod, Int.reduceAdd, Int.reduceSub, Int.reduceMul, Int.reduceNeg, Int.reducePow, Int.reduceEq, ↓reduceIte, Nat.reduceEqDiff, Nat.reduceAdd, Nat.reduceMul, Nat.reduceLeDiff, Nat.reduceSub, Nat.reduceLT, Int.reduceToNat, Int.reduceLT, Int.reduceLE, reduceCtorEq]))
      · have ca : a < 0 := by simpa [cb] using c
        try simp only [r43_0, r43_1, r43_2, r43_3, r43_4, r43_5, r43_6, r43_7, r43_8, r43_9, r43_10, r43_11, r43_12, r43_13, r43_14, r43_15, c43, F43, s1, s2, s3, m1, dv, z, z2, z3, ca, cb, c2, one, ad, ng, it, go_sem, Int.reduceTMod, Int.reduceTDiv, Int.reduceDiv, Int.reduceMod, Int.reduceAdd, Int.reduceSub, Int.reduceMul, Int.reduceNeg, Int.reducePow, Int.reduceEq, ↓reduceIte, Nat.reduceEqDiff, Nat.reduceAdd, Nat.reduceMul, Nat.reduceLeDiff, Nat.reduceSub, Nat.reduceLT, Int.reduceToNat, Int.reduceLT, Int.reduceLE, reduceCtorEq]
        repeat' ((first | refine FK_split (fun h_ => ?_) (fun h_ => ?_) | refine GK_split (fun h_ => ?_) (fun h_ => ?_) | refine ite_both (fun h_ => ?_) (fun h_ => ?_)) <;> (try simp only [decide_eq_true_eq, decide_eq_false_iff_not, Bool.not_true, Bool.not_false, Bool.not_eq_true', Bool.not_eq_false', Bool.not_eq_eq_eq_not, Decidable.not_not] at h_) <;> (try simp only [r43_0, r43_1, r43_2, r43_3, r43_4, r43_5, r43_6, r43_7, r43_8, r43_9, r43_10, r43_11, r43_12, r43_13, r43_14, r43_15, c43, F43, s1, s2, s3, m1, dv, z, z2, z3, ca, cb, c2, one, ad, ng, it, h_, go_sem, Int.reduceTMod, Int.reduceTDiv, Int.reduceDiv, Int.reduceMod, Int.reduceAdd, Int.reduceSub, Int.reduceMul, Int.reduceNeg, Int.reducePow, Int.reduceEq, ↓reduceIte, Nat.reduceEqDiff, Nat.reduceAdd, Nat.reduceMul, Nat.reduceLeDiff, Nat.reduceSub, Nat.reduceLT, Int.reduceToNat, Int.reduceLT, Int.reduceLE, reduceCtorEq]))
    · have hr0 : r = 0 := by omega
      have e : a * b / d = -q := by
        have : a * b = d * (-q) := by rw [Int.mul_neg]; omega
        rw [this, Int.mul_ediv_cancel_left _ (by omega)]
      have ng := v_wNeg 0 q q0 (by omega)
      rw [e]
      have n1 : subH 0 0 0 q = -q / 18446744073709551616 := by
        unfold subH
        by_cases cq : 0 < q
        · rw [if_pos cq]
          have : IntKind.i64.wrap (0 - 0 - 1) = -1 := rfl
          rw [this]; omega
        · rw [if_neg cq]
          have : IntKind.i64.wrap (0 - 0 - 0) = 0 := rfl
          rw [this]; omega
      have n2 : (0 - q) % 18446744073709551616 = -q % 18446744073709551616 := by omega
      rw [n1, n2] at ng
      have it := ints (-q) (by omega) (by omega)
      refine ⟨decide (r = 0), callF_of (Fn_ofK (fn := F43) rfl (by simp [F43]) ?_)⟩
      by_cases cb : b < 0
      · have ca : ¬ a < 0 := by simpa [cb] using c
        try simp only [r43_0, r43_1, r43_2, r43_3, r43_4, r43_5, r43_6, r43_7, r43_8, r43_9, r43_10, r43_11, r43_12, r43_13, r43_14, r43_15, c43, F43, s1, s2, s3, m1, dv, z, z2, z3, ca, cb, c2, one, ng, it, go_sem, Int.reduceTMod, Int.reduceTDiv, Int.reduceDiv, Int.reduceMod, Int.reduceAdd, Int.reduceSub, Int.reduceMul, Int.reduceNeg, Int.reducePow, Int.reduceEq, ↓reduceIte, Nat.reduceEqDiff, Nat.reduceAdd, Nat.reduceMul, Nat.reduceLeDiff, Nat.reduceSub, Nat.reduceLT, Int.reduceToNat, Int.reduceLT, Int.reduceLE, reduceCtorEq]
        repeat' ((first | refine FK_split (fun h_ => ?_) (fun h_ => ?_) | refine GK_split (fun h_ => ?_) (fun h_ => ?_) | refine ite_both (fun h_ => ?_) (fun h_ => ?_)) <;> (try simp only [decide_eq_true_eq, decide_eq_false_iff_not, Bool.not_true, Bool.not_false, Bool.not_eq_true', Bool.not_eq_false', Bool.not_eq_eq_eq_not, Decidable.not_not] at h_) <;> (try simp only [r43_0, r43_1, r43_2, r43_3, r43_4, r43_5, r43_6, r43_7, r43_8, r43_9, r43_10, r43_11, r43_12, r43_13, r43_14, r43_15, c43, F43, s1, s2, s3, m1, dv, z, z2, z3, ca, cb, c2, one, ng, it, h_, go_sem, Int.reduceTMod, Int.reduceTDiv, Int.reduceDiv, Int.reduceMod, Int.reduceAdd, Int.reduceSub, Int.reduceMul, Int.reduceNeg, Int.reducePow, Int.reduceEq, ↓reduceIte, Nat.reduceEqDiff, Nat.reduceAdd, Nat.reduceMul, Nat.reduceLeDiff, Nat.reduceSub, Nat.reduceLT, Int.reduceToNat, Int.reduceLT, Int.reduceLE, reduceCtorEq]))
      · have ca : a < 0 := by simpa [cb] using c
        try simp only [r43_0, r43_1, r43_2, r43_3, r43_4, r43_5, r43_6, r43_7, r43_8, r43_9, r43_10, r43_11, r43_12, r43_13, r43_14, r43_15, c43, F43, s1, s2, s3, m1, dv, z, z2, z3, ca, cb, c2, one, ng, it, go_sem, Int.reduceTMod, Int.reduceTDiv, Int.reduceDiv, Int.reduceMod, Int.reduceAdd, Int.reduceSub, Int.reduceMul, Int.reduceNeg, Int.reducePow, Int.reduceEq, ↓reduceIte, Nat.reduceEqDiff, Nat.reduceAdd, Nat.reduceMul, Nat.reduceLeDiff, Nat.reduceSub, Nat.reduceLT, Int.reduceToNat, Int.reduceLT, Int.reduceLE, reduceCtorEq]
        repeat' ((first | refine FK_split (fun h_ => ?_) (fun h_ => ?_) | refine GK_split (fun h_ => ?_) (fun h_ => ?_) | refine ite_both (fun h_ => ?_) (fun h_ => ?_)) <;> (try simp only [decide_eq_true_eq, decide_eq_false_iff_not, Bool.not_true, Bool.not_false, Bool.not_eq_true', Bool.not_eq_false', Bool.not_eq_eq_eq_not, Decidable.not_not] at h_) <;> (try simp only [r43_0, r43_1, r43_2, r43_3, r43_4, r43_5, r43_6, r43_7, r43_8, r43_9, r43_10, r43_11, r43_12, r43_13, r43_14, r43_15, c43, F43, s1, s2, s3, m1, dv, z, z2, z3, ca, cb, c2, one, ng, it, h_, go_sem, Int.reduceTMod, Int.reduceTDiv, Int.reduceDiv, Int.reduceMod, Int.reduceAdd, Int.reduceSub, Int.reduceMul, Int.reduceNeg, Int.reducePow, Int.reduceEq, ↓reduceIte, Nat.reduceEqDiff, Nat.reduceAdd, Nat.reduceMul, Nat.reduceLeDiff, Nat.reduceSub, Nat.reduceLT, Int.reduceToNat, Int.reduceLT, Int.reduceLE, reduceCtorEq]))

/- Points, quotients, lengths walked (chapter 16). Conditions: those that each theorem names. -/
open Go Go.Proofs
set_option linter.unusedSimpArgs false
set_option linter.unusedVariables false


def rm (a : Int) : Bool := decide (-2147483648 ≤ a) && decide (a ≤ 2147483648)
theorem rm_iff {a : Int} : rm a = true ↔ -2147483648 ≤ a ∧ a ≤ 2147483648 := by simp [rm]

theorem v_fIn (a : Int) (m : Mem) (n : Nat) : callF TA 60 [RI a] m n = some (RB (rm a)) := by
  refine callF_of (Fn_ofK (fn := F60) rfl (by simp [F60]) ?_)
  try simp only [r60_0, r60_1, c60, F60, rm, go_sem, Int.reduceTMod, Int.reduceTDiv, Int.reduceDiv, Int.reduceMod, Int.reduceAdd, Int.reduceSub, Int.reduceMul, Int.reduceNeg, Int.reducePow, Int.reduceEq, ↓reduceIte, Nat.reduceEqDiff, Nat.reduceAdd, Nat.reduceMul, Nat.reduceLeDiff, Nat.reduceSub, Nat.reduceLT, Int.reduceToNat, Int.reduceLT, Int.reduceLE, reduceCtorEq]
  repeat' ((first | refine FK_split (fun h_ => ?_) (fun h_ => ?_) | refine GK_split (fun h_ => ?_) (fun h_ => ?_) | refine ite_both (fun h_ => ?_) (fun h_ => ?_)) <;> (try simp only [decide_eq_true_eq, decide_eq_false_iff_not, Bool.not_true, Bool.not_false, Bool.not_eq_true', Bool.not_eq_false', Bool.not_eq_eq_eq_not, Decidable.not_not] at h_) <;> (try simp only [r60_0, r60_1, c60, F60, rm, h_, go_sem, Int.reduceTMod, Int.reduceTDiv, Int.reduceDiv, Int.reduceMod, Int.reduceAdd, Int.reduceSub, Int.reduceMul, Int.reduceNeg, Int.reducePow, Int.reduceEq, ↓reduceIte, Nat.reduceEqDiff, Nat.reduceAdd, Nat.reduceMul, Nat.reduceLeDiff, Nat.reduceSub, Nat.reduceLT, Int.reduceToNat, Int.reduceLT, Int.reduceLE, reduceCtorEq]))

structure Pt where
  x : Int
  y : Int
abbrev Pt.cs (p : Pt) : List Cell := [I p.x, I p.y]
abbrev Pt.r (p : Pt) : Reg := .agg [I p.x, I p.y]
def inP (p : Pt) : Bool := rm p.x && rm p.y
theorem v_PIn (x y : Int) (m : Mem) (n : Nat) : callF TA 55 [.agg [I x, I y]] m n = some (RB (inP ⟨x, y⟩)) := by
  refine callF_of (Fn_ofK (fn := F55) rfl (by simp [F55]) ?_)
  try simp only [r55_0, r55_1, c55, F55, v_fIn, inP, go_sem, Int.reduceTMod, Int.reduceTDiv, Int.reduceDiv, Int.reduceMod, Int.reduceAdd, Int.reduceSub, Int.reduceMul, Int.reduceNeg, Int.reducePow, Int.reduceEq, ↓reduceIte, Nat.reduceEqDiff, Nat.reduceAdd, Nat.reduceMul, Nat.reduceLeDiff, Nat.reduceSub, Nat.reduceLT, Int.reduceToNat, Int.reduceLT, Int.reduceLE, reduceCtorEq]
  repeat' ((first | refine FK_split (fun h_ => ?_) (fun h_ => ?_) | refine GK_split (fun h_ => ?_) (fun h_ => ?_) | refine ite_both (fun h_ => ?_) (fun h_ => ?_)) <;> (try simp only [decide_eq_true_eq, decide_eq_false_iff_not, Bool.not_true, Bool.not_false, Bool.not_eq_true', Bool.not_eq_false', Bool.not_eq_eq_eq_not, Decidable.not_not] at h_) <;> (try simp only [r55_0, r55_1, c55, F55, v_fIn, inP, h_, go_sem, Int.reduceTMod, Int.reduceTDiv, Int.reduceDiv, Int.reduceMod, Int.reduceAdd, Int.reduceSub, Int.reduceMul, Int.reduceNeg, Int.reducePow, Int.reduceEq, ↓reduceIte, Nat.reduceEqDiff, Nat.reduceAdd, Nat.reduceMul, Nat.reduceLeDiff, Nat.reduceSub, Nat.reduceLT, Int.reduceToNat, Int.reduceLT, Int.reduceLE, reduceCtorEq]))
/-- Is a line too long? -/
def longB (x y : Int) : Bool := decide (536870912 < x) || (decide (x < -536870912) || (decide (536870912 < y) || decide (y < -536870912)))
theorem long_iff {x y : Int} : longB x y = false ↔ (-536870912 ≤ x ∧ x ≤ 536870912) ∧ -536870912 ≤ y ∧ y ≤ 536870912 := by
  simp only [longB, Bool.or_eq_false_iff, decide_eq_false_iff_not]; omega
theorem sq_bd {x y : Int} (h : longB x y = false) : (0 ≤ x * x ∧ x * x ≤ 288230376151711744) ∧ 0 ≤ y * y ∧ y * y ≤ 288230376151711744 := by
  rw [long_iff] at h
  have key : ∀ z : Int, -536870912 ≤ z → z ≤ 536870912 → 0 ≤ z * z ∧ z * z ≤ 288230376151711744 := by
    intro z h1 h2
    rcases Int.le_total 0 z with k | k
    · exact ⟨Int.mul_nonneg k k, by have := Int.mul_le_mul h2 h2 k (by omega); omega⟩
    · have e : z * z = (-z) * (-z) := (Int.neg_mul_neg z z).symm
      rw [e]
      exact ⟨Int.mul_nonneg (by omega) (by omega), by have := Int.mul_le_mul (show -z ≤ 536870912 by omega) (show -z ≤ 536870912 by omega) (by omega) (by omega); omega⟩
  exact ⟨key x h.1.1 h.1.2, key y h.2.1 h.2.2⟩
theorem inP_iff {x y : Int} : inP ⟨x, y⟩ = true ↔ (-2147483648 ≤ x ∧ x ≤ 2147483648) ∧ -2147483648 ≤ y ∧ y ≤ 2147483648 := by
  simp only [inP, Bool.and_eq_true, rm_iff]
theorem sub_wrap {ax ay bx b_y : Int} (ha : inP ⟨ax, ay⟩ = true) (hb : inP ⟨bx, b_y⟩ = true) : IntKind.i64.wrap (bx - ax) = bx - ax ∧ IntKind.i64.wrap (b_y - ay) = b_y - ay := by
  rw [inP_iff] at ha hb
  exact ⟨wr_eq (by omega) (by omega), wr_eq (by omega) (by omega)⟩
theorem v_Length (ax ay bx b_y : Int) (m : Mem) (n : Nat) : callF TA 44 [.agg [I ax, I ay], .agg [I bx, I b_y]] m n = some (if (inP ⟨ax, ay⟩ && inP ⟨bx, b_y⟩) = true then
      (if longB (bx - ax) (b_y - ay) = true then .tup [RI 0, RI 10] else .tup [RI (isq ((bx - ax) * (bx - ax) + (b_y - ay) * (b_y - ay))), RI 0]) else .tup [RI 0, RI 30]) := by
  refine callF_of (Fn_ofK (fn := F44) rfl (by simp [F44]) ?_)
  cases ha : inP ⟨ax, ay⟩
  · rw [if_neg (by simp)]
    try simp only [r44_0, r44_1, r44_2, r44_3, r44_4, r44_5, r44_6, c44, F44, v_PIn, ha, go_sem, Int.reduceTMod, Int.reduceTDiv, Int.reduceDiv, Int.reduceMod, Int.reduceAdd, Int.reduceSub, Int.reduceMul, Int.reduceNeg, Int.reducePow, Int.reduceEq, ↓reduceIte, Nat.reduceEqDiff, Nat.reduceAdd, Nat.reduceMul, Nat.reduceLeDiff, Nat.reduceSub, Nat.reduceLT, Int.reduceToNat, Int.reduceLT, Int.reduceLE, reduceCtorEq]
    repeat' ((first | refine FK_split (fun h_ => ?_) (fun h_ => ?_) | refine GK_split (fun h_ => ?_) (fun h_ => ?_) | refine ite_both (fun h_ => ?_) (fun h_ => ?_)) <;> (try simp only [decide_eq_true_eq, decide_eq_false_iff_not, Bool.not_true, Bool.not_false, Bool.not_eq_true', Bool.not_eq_false', Bool.not_eq_eq_eq_not, Decidable.not_not] at h_) <;> (try simp only [r44_0, r44_1, r44_2, r44_3, r44_4, r44_5, r44_6, c44, F44, v_PIn, ha, h_, go_sem, Int.reduceTMod, Int.reduceTDiv, Int.reduceDiv, Int.reduceMod, Int.reduceAdd, Int.reduceSub, Int.reduceMul, Int.reduceNeg, Int.reducePow, Int.reduceEq, ↓reduceIte, Nat.reduceEqDiff, Nat.reduceAdd, Nat.reduceMul, Nat.reduceLeDiff, Nat.reduceSub, Nat.reduceLT, Int.reduceToNat, Int.reduceLT, Int.reduceLE, reduceCtorEq]))
  · cases hb : inP ⟨bx, b_y⟩
    · rw [if_neg (by simp)]
      try simp only [r44_0, r44_1, r44_2, r44_3, r44_4, r44_5, r44_6, c44, F44, v_PIn, ha, hb, go_sem, Int.reduceTMod, Int.reduceTDiv, Int.reduceDiv, Int.reduceMod, Int.reduceAdd, Int.reduceSub, Int.reduceMul, Int.reduceNeg, Int.reducePow, Int.reduceEq, ↓reduceIte, Nat.reduceEqDiff, Nat.reduceAdd, Nat.reduceMul, Nat.reduceLeDiff, Nat.reduceSub, Nat.reduceLT, Int.reduceToNat, Int.reduceLT, Int.reduceLE, reduceCtorEq]
      repeat' ((first | refine FK_split (fun h_ => ?_) (fun h_ => ?_) | refine GK_split (fun h_ => ?_) (fun h_ => ?_) | refine ite_both (fun h_ => ?_) (fun h_ => ?_)) <;> (try simp only [decide_eq_true_eq, decide_eq_false_iff_not, Bool.not_true, Bool.not_false, Bool.not_eq_true', Bool.not_eq_false', Bool.not_eq_eq_eq_not, Decidable.not_not] at h_) <;> (try simp only [r44_0, r44_1, r44_2, r44_3, r44_4, r44_5, r44_6, c44, F44, v_PIn, ha, hb, h_, go_sem, Int.reduceTMod, Int.reduceTDiv, Int.reduceDiv, Int.reduceMod, Int.reduceAdd, Int.reduceSub, Int.reduceMul, Int.reduceNeg, Int.reducePow, Int.reduceEq, ↓reduceIte, Nat.reduceEqDiff, Nat.reduceAdd, Nat.reduceMul, Nat.reduceLeDiff, Nat.reduceSub, Nat.reduceLT, Int.reduceToNat, Int.reduceLT, Int.reduceLE, reduceCtorEq]))
    · rw [if_pos (by simp)]
      obtain ⟨w1, w2⟩ := sub_wrap ha hb
      cases hl : longB (bx - ax) (b_y - ay)
      · rw [if_neg (by simp)]
        have sq := sq_bd hl
        rw [long_iff] at hl
        generalize hgx : bx - ax = x at *
        generalize hgy : b_y - ay = y at *
        have w3 : IntKind.i64.wrap (x * x) = x * x := wr_eq (by omega) (by omega)
        have w4 : IntKind.i64.wrap (y * y) = y * y := wr_eq (by omega) (by omega)
        have w5 : IntKind.i64.wrap (x * x + y * y) = x * x + y * y := wr_eq (by omega) (by omega)
        have vr := v_Sqrt (x * x + y * y) (by omega) (by omega)
        have m1 : (536870912 < mxI x y) = False := eq_false (by unfold mxI; split <;> omega)
        have m2 : (mnI x y < -536870912) = False := eq_false (by unfold mnI; split <;> omega)
        try simp only [r44_0, r44_1, r44_2, r44_3, r44_4, r44_5, r44_6, c44, F44, v_PIn, ha, hb, hgx, hgy, w1, w2, w3, w4, w5, vr, maxI_two, minI_two, m1, m2, go_sem, Int.reduceTMod, Int.reduceTDiv, Int.reduceDiv, Int.reduceMod, Int.reduceAdd, Int.reduceSub, Int.reduceMul, Int.reduceNeg, Int.reducePow, Int.reduceEq, ↓reduceIte, Nat.reduceEqDiff, Nat.reduceAdd, Nat.reduceMul, Nat.reduceLeDiff, Nat.reduceSub, Nat.reduceLT, Int.reduceToNat, Int.reduceLT, Int.reduceLE, reduceCtorEq]
        repeat' ((first | refine FK_split (fun h_ => ?_) (fun h_ => ?_) | refine GK_split (fun h_ => ?_) (fun h_ => ?_) | refine ite_both (fun h_ => ?_) (fun h_ => ?_)) <;> (try simp only [decide_eq_true_eq, decide_eq_false_iff_not, Bool.not_true, Bool.not_false, Bool.not_eq_true', Bool.not_eq_false', Bool.not_eq_eq_eq_not, Decidable.not_not] at h_) <;> (try simp only [r44_0, r44_1, r44_2, r44_3, r44_4, r44_5, r44_6, c44, F44, v_PIn, ha, hb, hgx, hgy, w1, w2, w3, w4, w5, vr, maxI_two, minI_two, m1, m2, h_, go_sem, Int.reduceTMod, Int.reduceTDiv, Int.reduceDiv, Int.reduceMod, Int.reduceAdd, Int.reduceSub, Int.reduceMul, Int.reduceNeg, Int.reducePow, Int.reduceEq, ↓reduceIte, Nat.reduceEqDiff, Nat.reduceAdd, Nat.reduceMul, Nat.reduceLeDiff, Nat.reduceSub, Nat.reduceLT, Int.reduceToNat, Int.reduceLT, Int.reduceLE, reduceCtorEq]))
      · rw [if_pos rfl]
        have hl' : ¬ ((-536870912 ≤ bx - ax ∧ bx - ax ≤ 536870912) ∧ -536870912 ≤ b_y - ay ∧ b_y - ay ≤ 536870912) := fun h => by rw [long_iff.2 h] at hl; cases hl
        generalize hgx : bx - ax = x at *
        generalize hgy : b_y - ay = y at *
        by_cases g : 536870912 < mxI x y
        · skip
          try simp only [r44_0, r44_1, r44_2, r44_3, r44_4, r44_5, r44_6, c44, F44, v_PIn, ha, hb, hgx, hgy, w1, w2, maxI_two, minI_two, g, go_sem, Int.reduceTMod, Int.reduceTDiv, Int.reduceDiv, Int.reduceMod, Int.reduceAdd, Int.reduceSub, Int.reduceMul, Int.reduceNeg, Int.reducePow, Int.reduceEq, ↓reduceIte, Nat.reduceEqDiff, Nat.reduceAdd, Nat.reduceMul, Nat.reduceLeDiff, Nat.reduceSub, Nat.reduceLT, Int.reduceToNat, Int.reduceLT, Int.reduceLE, reduceCtorEq]
          repeat' ((first | refine FK_split (fun h_ => ?_) (fun h_ => ?_) | refine GK_split (fun h_ => ?_) (fun h_ => ?_) | refine ite_both (fun h_ => ?_) (fun h_ => ?_)) <;> (try simp only [decide_eq_true_eq, decide_eq_false_iff_not, Bool.not_true, Bool.not_false, Bool.not_eq_true', Bool.not_eq_false', Bool.not_eq_eq_eq_not, Decidable.not_not] at h_) <;> (try simp only [r44_0, r44_1, r44_2, r44_3, r44_4, r44_5, r44_6, c44, F44, v_PIn, ha, hb, hgx, hgy, w1, w2, maxI_two, minI_two, g, h_, go_sem, Int.reduceTMod, Int.reduceTDiv, Int.reduceDiv, Int.reduceMod, Int.reduceAdd, Int.reduceSub, Int.reduceMul, Int.reduceNeg, Int.reducePow, Int.reduceEq, ↓reduceIte, Nat.reduceEqDiff, Nat.reduceAdd, Nat.reduceMul, Nat.reduceLeDiff, Nat.reduceSub, Nat.reduceLT, Int.reduceToNat, Int.reduceLT, Int.reduceLE, reduceCtorEq]))
        · have m2 : (mnI x y < -536870912) = True := eq_true (by unfold mxI at g; unfold mnI; split at g <;> split <;> omega)
          try simp only [r44_0, r44_1, r44_2, r44_3, r44_4, r44_5, r44_6, c44, F44, v_PIn, ha, hb, hgx, hgy, w1, w2, maxI_two, minI_two, g, m2, go_sem, Int.reduceTMod, Int.reduceTDiv, Int.reduceDiv, Int.reduceMod, Int.reduceAdd, Int.reduceSub, Int.reduceMul, Int.reduceNeg, Int.reducePow, Int.reduceEq, ↓reduceIte, Nat.reduceEqDiff, Nat.reduceAdd, Nat.reduceMul, Nat.reduceLeDiff, Nat.reduceSub, Nat.reduceLT, Int.reduceToNat, Int.reduceLT, Int.reduceLE, reduceCtorEq]
          repeat' ((first | refine FK_split (fun h_ => ?_) (fun h_ => ?_) | refine GK_split (fun h_ => ?_) (fun h_ => ?_) | refine ite_both (fun h_ => ?_) (fun h_ => ?_)) <;> (try simp only [decide_eq_true_eq, decide_eq_false_iff_not, Bool.not_true, Bool.not_false, Bool.not_eq_true', Bool.not_eq_false', Bool.not_eq_eq_eq_not, Decidable.not_not] at h_) <;> (try simp only [r44_0, r44_1, r44_2, r44_3, r44_4, r44_5, r44_6, c44, F44, v_PIn, ha, hb, hgx, hgy, w1, w2, maxI_two, minI_two, g, m2, h_, go_sem, Int.reduceTMod, Int.reduceTDiv, Int.reduceDiv, Int.reduceMod, Int.reduceAdd, Int.reduceSub, Int.reduceMul, Int.reduceNeg, Int.reducePow, Int.reduceEq, ↓reduceIte, Nat.reduceEqDiff, Nat.reduceAdd, Nat.reduceMul, Nat.reduceLeDiff, Nat.reduceSub, Nat.reduceLT, Int.reduceToNat, Int.reduceLT, Int.reduceLE, reduceCtorEq]))

/- Patterns walked (chapter 09): the reference's answer. Conditions: those that each theorem names. -/
open Go Go.Proofs
set_option linter.unusedSimpArgs false
set_option linter.unusedVariables false

abbrev encI (x : Int) : List Cell := [I x]
abbrev RIn := RL encI 1
theorem ci1 (x : Int) : (encI x).length = 1 := rfl
theorem RL.int {m : Mem} {n : Nat} {r : Reg} {l : List Int} {i : Nat} {x : Int} (h : RIn m n r l) (hi : l[i]? = some x) :
    ∃ id off cap b, r = .one (.sl id off l.length cap 1) ∧ id < n ∧ m id = some b ∧ b.cells[off + i]? = some (I x) := by
  obtain ⟨id, off, cap, h1, h2, h3⟩ := h.at ci1 hi
  obtain ⟨b, h4, h5⟩ := rd_cell h3 (a := 0) (c := I x) rfl
  exact ⟨id, off, cap, b, h1, h2, h4, by rw [Nat.mul_one, Nat.add_zero] at h5; exact h5⟩

/- Patterns walked (chapter 09): the program's. Conditions: those that each theorem names. -/
open Go Go.Proofs
set_option linter.unusedSimpArgs false
set_option linter.unusedVariables false


/- Stops of shades: read, compared, told right or not; both walked. Conditions: those that each theorem names. -/
open Go Go.Proofs
set_option linter.unusedSimpArgs false
set_option linter.unusedVariables false

abbrev U8 (x : Int) : Cell := .sc (.int .u8 x)
structure Stp where
  a : Int
  c0 : Int
  c1 : Int
  c2 : Int
  c3 : Int
  deriving DecidableEq
abbrev Stp.cs (s : Stp) : List Cell := [I s.a, U8 s.c0, U8 s.c1, U8 s.c2, U8 s.c3]
abbrev Stp.ri (s : Stp) : List Cell := [I s.a, I s.c0, I s.c1, I s.c2, I s.c3]
theorem cs5 (s : Stp) : s.cs.length = 5 := rfl
theorem ri5 (s : Stp) : s.ri.length = 5 := rfl
abbrev RSt := RL Stp.cs 5
abbrev RRi := RL Stp.ri 5
def byteB (x : Int) : Prop := 0 ≤ x ∧ x ≤ 255
def Stp.by (s : Stp) : Prop := (byteB s.c0 ∧ byteB s.c1) ∧ byteB s.c2 ∧ byteB s.c3
def crB (c0 c1 c2 c3 : Int) : Bool := decide (c0 ≤ c3) && (decide (c1 ≤ c3) && decide (c2 ≤ c3))
theorem v_CRight (c0 c1 c2 c3 : Int) (m : Mem) (n : Nat) : callF TA 19 [.agg [U8 c0, U8 c1, U8 c2, U8 c3]] m n = some (RB (crB c0 c1 c2 c3)) := by
  refine callF_of (Fn_ofK (fn := F19) rfl (by simp [F19]) ?_)
  have e : decide (mxI (mxI c0 c1) c2 ≤ c3) = crB c0 c1 c2 c3 := by
    unfold crB
    rw [← Bool.decide_and, ← Bool.decide_and]
    congr 1
    apply propext
    unfold mxI
    repeat' split
    all_goals omega
  try simp only [r19_0, r19_1, c19, F19, maxI_three, e, go_sem, Int.reduceTMod, Int.reduceTDiv, Int.reduceDiv, Int.reduceMod, Int.reduceAdd, Int.reduceSub, Int.reduceMul, Int.reduceNeg, Int.reducePow, Int.reduceEq, ↓reduceIte, Nat.reduceEqDiff, Nat.reduceAdd, Nat.reduceMul, Nat.reduceLeDiff, Nat.reduceSub, Nat.reduceLT, Int.reduceToNat, Int.reduceLT, Int.reduceLE, reduceCtorEq]
  repeat' ((first | refine FK_split (fun h_ => ?_) (fun h_ => ?_) | refine GK_split (fun h_ => ?_) (fun h_ => ?_) | refine ite_both (fun h_ => ?_) (fun h_ => ?_)) <;> (try simp only [decide_eq_true_eq, decide_eq_false_iff_not, Bool.not_true, Bool.not_false, Bool.not_eq_true', Bool.not_eq_false', Bool.not_eq_eq_eq_not, Decidable.not_not] at h_) <;> (try simp only [r19_0, r19_1, c19, F19, maxI_three, e, h_, go_sem, Int.reduceTMod, Int.reduceTDiv, Int.reduceDiv, Int.reduceMod, Int.reduceAdd, Int.reduceSub, Int.reduceMul, Int.reduceNeg, Int.reducePow, Int.reduceEq, ↓reduceIte, Nat.reduceEqDiff, Nat.reduceAdd, Nat.reduceMul, Nat.reduceLeDiff, Nat.reduceSub, Nat.reduceLT, Int.reduceToNat, Int.reduceLT, Int.reduceLE, reduceCtorEq]))
theorem v_rCRight (c0 c1 c2 c3 : Int) (m : Mem) (n : Nat) : callF TA 25 [.agg [I c0, I c1, I c2, I c3]] m n = some (RB (crB c0 c1 c2 c3)) := by
  refine callF_of (Fn_ofK (fn := F25) rfl (by simp [F25]) ?_)
  unfold crB
  try simp only [r25_0, r25_1, c25, F25, go_sem, Int.reduceTMod, Int.reduceTDiv, Int.reduceDiv, Int.reduceMod, Int.reduceAdd, Int.reduceSub, Int.reduceMul, Int.reduceNeg, Int.reducePow, Int.reduceEq, ↓reduceIte, Nat.reduceEqDiff, Nat.reduceAdd, Nat.reduceMul, Nat.reduceLeDiff, Nat.reduceSub, Nat.reduceLT, Int.reduceToNat, Int.reduceLT, Int.reduceLE, reduceCtorEq]
  repeat' ((first | refine FK_split (fun h_ => ?_) (fun h_ => ?_) | refine GK_split (fun h_ => ?_) (fun h_ => ?_) | refine ite_both (fun h_ => ?_) (fun h_ => ?_)) <;> (try simp only [decide_eq_true_eq, decide_eq_false_iff_not, Bool.not_true, Bool.not_false, Bool.not_eq_true', Bool.not_eq_false', Bool.not_eq_eq_eq_not, Decidable.not_not] at h_) <;> (try simp only [r25_0, r25_1, c25, F25, h_, go_sem, Int.reduceTMod, Int.reduceTDiv, Int.reduceDiv, Int.reduceMod, Int.reduceAdd, Int.reduceSub, Int.reduceMul, Int.reduceNeg, Int.reducePow, Int.reduceEq, ↓reduceIte, Nat.reduceEqDiff, Nat.reduceAdd, Nat.reduceMul, Nat.reduceLeDiff, Nat.reduceSub, Nat.reduceLT, Int.reduceToNat, Int.reduceLT, Int.reduceLE, reduceCtorEq]))
theorem v_refColor {c0 c1 c2 c3 : Int} (h0 : byteB c0) (h1 : byteB c1) (h2 : byteB c2) (h3 : byteB c3) (m : Mem) (n : Nat) : callF TA 13 [.agg [U8 c0, U8 c1, U8 c2, U8 c3]] m n = some (.agg [I c0, I c1, I c2, I c3]) := by
  refine callF_of (Fn_ofK (fn := F13) rfl (by simp [F13]) ?_)
  have w : ∀ x, byteB x → IntKind.i64.wrap x = x := fun x h => by unfold byteB at h; exact wr_eq (by omega) (by omega)
  try simp only [r13_0, r13_1, c13, F13, w c0 h0, w c1 h1, w c2 h2, w c3 h3, go_sem, Int.reduceTMod, Int.reduceTDiv, Int.reduceDiv, Int.reduceMod, Int.reduceAdd, Int.reduceSub, Int.reduceMul, Int.reduceNeg, Int.reducePow, Int.reduceEq, ↓reduceIte, Nat.reduceEqDiff, Nat.reduceAdd, Nat.reduceMul, Nat.reduceLeDiff, Nat.reduceSub, Nat.reduceLT, Int.reduceToNat, Int.reduceLT, Int.reduceLE, reduceCtorEq]
  repeat' ((first | refine FK_split (fun h_ => ?_) (fun h_ => ?_) | refine GK_split (fun h_ => ?_) (fun h_ => ?_) | refine ite_both (fun h_ => ?_) (fun h_ => ?_)) <;> (try simp only [decide_eq_true_eq, decide_eq_false_iff_not, Bool.not_true, Bool.not_false, Bool.not_eq_true', Bool.not_eq_false', Bool.not_eq_eq_eq_not, Decidable.not_not] at h_) <;> (try simp only [r13_0, r13_1, c13, F13, w c0 h0, w c1 h1, w c2 h2, w c3 h3, h_, go_sem, Int.reduceTMod, Int.reduceTDiv, Int.reduceDiv, Int.reduceMod, Int.reduceAdd, Int.reduceSub, Int.reduceMul, Int.reduceNeg, Int.reducePow, Int.reduceEq, ↓reduceIte, Nat.reduceEqDiff, Nat.reduceAdd, Nat.reduceMul, Nat.reduceLeDiff, Nat.reduceSub, Nat.reduceLT, Int.reduceToNat, Int.reduceLT, Int.reduceLE, reduceCtorEq]))
theorem v_refStops (r : Reg) (l : List Stp) (m : Mem) (n : Nat) (hr : RSt m n r l) (hb : ∀ s ∈ l, s.by) (hl : l.length < 4294967296) :
    Fn TA 15 [r] m n (fun r' m' n' => OL Stp.ri 5 n m' n' r' l ∧ n ≤ n') := by
  refine Fn_ofK (fn := F15) rfl (by simp [F15]) ?_
  have hlen := hr.len
  try simp only [r15_0, r15_1, r15_2, r15_3, r15_4, r15_5, r15_6, r15_7, c15, F15, hlen, go_sem, Int.reduceTMod, Int.reduceTDiv, Int.reduceDiv, Int.reduceMod, Int.reduceAdd, Int.reduceSub, Int.reduceMul, Int.reduceNeg, Int.reducePow, Int.reduceEq, ↓reduceIte, Nat.reduceEqDiff, Nat.reduceAdd, Nat.reduceMul, Nat.reduceLeDiff, Nat.reduceSub, Nat.reduceLT, Int.reduceToNat, Int.reduceLT, Int.reduceLE, reduceCtorEq]
  repeat' ((first | refine FK_split (fun h_ => ?_) (fun h_ => ?_) | refine GK_split (fun h_ => ?_) (fun h_ => ?_) | refine ite_both (fun h_ => ?_) (fun h_ => ?_)) <;> (try simp only [decide_eq_true_eq, decide_eq_false_iff_not, Bool.not_true, Bool.not_false, Bool.not_eq_true', Bool.not_eq_false', Bool.not_eq_eq_eq_not, Decidable.not_not] at h_) <;> (try simp only [r15_0, r15_1, r15_2, r15_3, r15_4, r15_5, r15_6, r15_7, c15, F15, hlen, h_, go_sem, Int.reduceTMod, Int.reduceTDiv, Int.reduceDiv, Int.reduceMod, Int.reduceAdd, Int.reduceSub, Int.reduceMul, Int.reduceNeg, Int.reducePow, Int.reduceEq, ↓reduceIte, Nat.reduceEqDiff, Nat.reduceAdd, Nat.reduceMul, Nat.reduceLeDiff, Nat.reduceSub, Nat.reduceLT, Int.reduceToNat, Int.reduceLT, Int.reduceLE, reduceCtorEq]))
  refine XK_iter (inv := fun i s => s.e 8 = RI i ∧ s.e 7 = RI l.length ∧ s.e 6 = r ∧ n ≤ s.n ∧ (∀ id, id < n → s.m id = m id) ∧ OL Stp.ri 5 n s.m s.n (s.e 3) (l.take i)) l.length
    (fun L _ => ⟨fun i hi s hs next => ?_, fun s hs => ?_⟩) 0 (by omega) _ ?_
  · obtain ⟨e, M, N⟩ := s
    obtain ⟨q8, q7, q6, qn, qm, qo⟩ := hs
    simp only at q8 q7 q6 qn qm qo
    have hp : l[i]? = some l[i] := List.getElem?_eq_getElem hi
    have hbp := hb l[i] (List.getElem_mem hi)
    obtain ⟨id, off, cap, hr1, hid, hrd⟩ := hr.at cs5 hp
    have hts : l.take (i + 1) = l.take i ++ [l[i]] := by rw [List.take_add_one, hp]; rfl
    generalize l[i] = p at *
    have c2 : ((i : Int) < (l.length : Int)) = True := eq_true (by omega)
    have c3 : (0 ≤ (i : Int)) = True := eq_true (by omega)
    have c7 : IntKind.i64.wrap ((i : Int) + 1) = ((i + 1 : Nat) : Int) := wr_nat (by omega)
    rw [hr1] at q6
    rw [show rd m id (off + i * 5) 5 = rd M id (off + i * 5) 5 by unfold rd; rw [qm id hid]] at hrd
    have hidN : id < N := by omega
    have n1 := na_0 hidN
    have vc := v_refColor hbp.1.1 hbp.1.2 hbp.2.1 hbp.2.2
    try simp only [r15_0, r15_1, r15_2, r15_3, r15_4, r15_5, r15_6, r15_7, c15, F15, l15_0, q8, q7, q6, c2, c3, c7, hrd, n1, vc, Int.toNat_natCast, go_sem, Int.reduceTMod, Int.reduceTDiv, Int.reduceDiv, Int.reduceMod, Int.reduceAdd, Int.reduceSub, Int.reduceMul, Int.reduceNeg, Int.reducePow, Int.reduceEq, ↓reduceIte, Nat.reduceEqDiff, Nat.reduceAdd, Nat.reduceMul, Nat.reduceLeDiff, Nat.reduceSub, Nat.reduceLT, Int.reduceToNat, Int.reduceLT, Int.reduceLE, reduceCtorEq]
    repeat' ((first | refine FK_split (fun h_ => ?_) (fun h_ => ?_) | refine GK_split (fun h_ => ?_) (fun h_ => ?_) | refine ite_both (fun h_ => ?_) (fun h_ => ?_)) <;> (try simp only [decide_eq_true_eq, decide_eq_false_iff_not, Bool.not_true, Bool.not_false, Bool.not_eq_true', Bool.not_eq_false', Bool.not_eq_eq_eq_not, Decidable.not_not] at h_) <;> (try simp only [r15_0, r15_1, r15_2, r15_3, r15_4, r15_5, r15_6, r15_7, c15, F15, l15_0, q8, q7, q6, c2, c3, c7, hrd, n1, vc, Int.toNat_natCast, h_, go_sem, Int.reduceTMod, Int.reduceTDiv, Int.reduceDiv, Int.reduceMod, Int.reduceAdd, Int.reduceSub, Int.reduceMul, Int.reduceNeg, Int.reducePow, Int.reduceEq, ↓reduceIte, Nat.reduceEqDiff, Nat.reduceAdd, Nat.reduceMul, Nat.reduceLeDiff, Nat.reduceSub, Nat.reduceLT, Int.reduceToNat, Int.reduceLT, Int.reduceLE, reduceCtorEq]))
    refine K_push ri5 (by decide) (p := p) (o := true) qo (by omega) (fun id h1 h2 => by simp only [na_0 h2, na_ne h2, go_sem, Int.reduceTMod, Int.reduceTDiv, Int.reduceDiv, Int.reduceMod, Int.reduceAdd, Int.reduceSub, Int.reduceMul, Int.reduceNeg, Int.reducePow, Int.reduceEq, ↓reduceIte, Nat.reduceEqDiff, Nat.reduceAdd, Nat.reduceMul, Nat.reduceLeDiff, Nat.reduceSub, Nat.reduceLT, Int.reduceToNat, Int.reduceLT, Int.reduceLE, reduceCtorEq]) (by simp only [go_sem, Int.reduceTMod, Int.reduceTDiv, Int.reduceDiv, Int.reduceMod, Int.reduceAdd, Int.reduceSub, Int.reduceMul, Int.reduceNeg, Int.reducePow, Int.reduceEq, ↓reduceIte, Nat.reduceEqDiff, Nat.reduceAdd, Nat.reduceMul, Nat.reduceLeDiff, Nat.reduceSub, Nat.reduceLT, Int.reduceToNat, Int.reduceLT, Int.reduceLE, reduceCtorEq]) (by rw [List.length_take]; omega) (by omega) ?_
    intro r' m' ho h1 h2
    try simp only [r15_0, r15_1, r15_2, r15_3, r15_4, r15_5, r15_6, r15_7, c15, F15, q8, q7, q6, c7, go_sem, Int.reduceTMod, Int.reduceTDiv, Int.reduceDiv, Int.reduceMod, Int.reduceAdd, Int.reduceSub, Int.reduceMul, Int.reduceNeg, Int.reducePow, Int.reduceEq, ↓reduceIte, Nat.reduceEqDiff, Nat.reduceAdd, Nat.reduceMul, Nat.reduceLeDiff, Nat.reduceSub, Nat.reduceLT, Int.reduceToNat, Int.reduceLT, Int.reduceLE, reduceCtorEq]
    repeat' ((first | refine FK_split (fun h_ => ?_) (fun h_ => ?_) | refine GK_split (fun h_ => ?_) (fun h_ => ?_) | refine ite_both (fun h_ => ?_) (fun h_ => ?_)) <;> (try simp only [decide_eq_true_eq, decide_eq_false_iff_not, Bool.not_true, Bool.not_false, Bool.not_eq_true', Bool.not_eq_false', Bool.not_eq_eq_eq_not, Decidable.not_not] at h_) <;> (try simp only [r15_0, r15_1, r15_2, r15_3, r15_4, r15_5, r15_6, r15_7, c15, F15, q8, q7, q6, c7, h_, go_sem, Int.reduceTMod, Int.reduceTDiv, Int.reduceDiv, Int.reduceMod, Int.reduceAdd, Int.reduceSub, Int.reduceMul, Int.reduceNeg, Int.reducePow, Int.reduceEq, ↓reduceIte, Nat.reduceEqDiff, Nat.reduceAdd, Nat.reduceMul, Nat.reduceLeDiff, Nat.reduceSub, Nat.reduceLT, Int.reduceToNat, Int.reduceLT, Int.reduceLE, reduceCtorEq]))
    refine next _ ⟨?_, ?_, ?_, ?_, ?_, ?_⟩
    · simp only [go_sem, Int.reduceTMod, Int.reduceTDiv, Int.reduceDiv, Int.reduceMod, Int.reduceAdd, Int.reduceSub, Int.reduceMul, Int.reduceNeg, Int.reducePow, Int.reduceEq, ↓reduceIte, Nat.reduceEqDiff, Nat.reduceAdd, Nat.reduceMul, Nat.reduceLeDiff, Nat.reduceSub, Nat.reduceLT, Int.reduceToNat, Int.reduceLT, Int.reduceLE, reduceCtorEq]
    · simp only [q7, go_sem, Int.reduceTMod, Int.reduceTDiv, Int.reduceDiv, Int.reduceMod, Int.reduceAdd, Int.reduceSub, Int.reduceMul, Int.reduceNeg, Int.reducePow, Int.reduceEq, ↓reduceIte, Nat.reduceEqDiff, Nat.reduceAdd, Nat.reduceMul, Nat.reduceLeDiff, Nat.reduceSub, Nat.reduceLT, Int.reduceToNat, Int.reduceLT, Int.reduceLE, reduceCtorEq]
    · simp only [q6, hr1, go_sem, Int.reduceTMod, Int.reduceTDiv, Int.reduceDiv, Int.reduceMod, Int.reduceAdd, Int.reduceSub, Int.reduceMul, Int.reduceNeg, Int.reducePow, Int.reduceEq, ↓reduceIte, Nat.reduceEqDiff, Nat.reduceAdd, Nat.reduceMul, Nat.reduceLeDiff, Nat.reduceSub, Nat.reduceLT, Int.reduceToNat, Int.reduceLT, Int.reduceLE, reduceCtorEq]
    · simp only [go_sem, Int.reduceTMod, Int.reduceTDiv, Int.reduceDiv, Int.reduceMod, Int.reduceAdd, Int.reduceSub, Int.reduceMul, Int.reduceNeg, Int.reducePow, Int.reduceEq, ↓reduceIte, Nat.reduceEqDiff, Nat.reduceAdd, Nat.reduceMul, Nat.reduceLeDiff, Nat.reduceSub, Nat.reduceLT, Int.reduceToNat, Int.reduceLT, Int.reduceLE, reduceCtorEq]
      omega
    · intro id hid
      simp only
      rw [h1 id hid]
      simp only [na_0 (show id < N by omega), na_ne (show id < N by omega), qm id hid, go_sem, Int.reduceTMod, Int.reduceTDiv, Int.reduceDiv, Int.reduceMod, Int.reduceAdd, Int.reduceSub, Int.reduceMul, Int.reduceNeg, Int.reducePow, Int.reduceEq, ↓reduceIte, Nat.reduceEqDiff, Nat.reduceAdd, Nat.reduceMul, Nat.reduceLeDiff, Nat.reduceSub, Nat.reduceLT, Int.reduceToNat, Int.reduceLT, Int.reduceLE, reduceCtorEq]
    · simp only [go_sem, Int.reduceTMod, Int.reduceTDiv, Int.reduceDiv, Int.reduceMod, Int.reduceAdd, Int.reduceSub, Int.reduceMul, Int.reduceNeg, Int.reducePow, Int.reduceEq, ↓reduceIte, Nat.reduceEqDiff, Nat.reduceAdd, Nat.reduceMul, Nat.reduceLeDiff, Nat.reduceSub, Nat.reduceLT, Int.reduceToNat, Int.reduceLT, Int.reduceLE, reduceCtorEq]
      rw [hts]
      exact ho
  · obtain ⟨e, M, N⟩ := s
    obtain ⟨q8, q7, q6, qn, qm, qo⟩ := hs
    simp only at q8 q7 q6 qn qm qo
    have c2 : ((l.length : Int) < (l.length : Int)) = False := eq_false (by omega)
    rw [List.take_length] at qo
    try simp only [r15_0, r15_1, r15_2, r15_3, r15_4, r15_5, r15_6, r15_7, c15, F15, l15_0, q8, q7, q6, c2, go_sem, Int.reduceTMod, Int.reduceTDiv, Int.reduceDiv, Int.reduceMod, Int.reduceAdd, Int.reduceSub, Int.reduceMul, Int.reduceNeg, Int.reducePow, Int.reduceEq, ↓reduceIte, Nat.reduceEqDiff, Nat.reduceAdd, Nat.reduceMul, Nat.reduceLeDiff, Nat.reduceSub, Nat.reduceLT, Int.reduceToNat, Int.reduceLT, Int.reduceLE, reduceCtorEq]
    repeat' ((first | refine FK_split (fun h_ => ?_) (fun h_ => ?_) | refine GK_split (fun h_ => ?_) (fun h_ => ?_) | refine ite_both (fun h_ => ?_) (fun h_ => ?_)) <;> (try simp only [decide_eq_true_eq, decide_eq_false_iff_not, Bool.not_true, Bool.not_false, Bool.not_eq_true', Bool.not_eq_false', Bool.not_eq_eq_eq_not, Decidable.not_not] at h_) <;> (try simp only [r15_0, r15_1, r15_2, r15_3, r15_4, r15_5, r15_6, r15_7, c15, F15, l15_0, q8, q7, q6, c2, h_, go_sem, Int.reduceTMod, Int.reduceTDiv, Int.reduceDiv, Int.reduceMod, Int.reduceAdd, Int.reduceSub, Int.reduceMul, Int.reduceNeg, Int.reducePow, Int.reduceEq, ↓reduceIte, Nat.reduceEqDiff, Nat.reduceAdd, Nat.reduceMul, Nat.reduceLeDiff, Nat.reduceSub, Nat.reduceLT, Int.reduceToNat, Int.reduceLT, Int.reduceLE, reduceCtorEq]))
    exact ⟨qo, qn⟩
  · simp only [List.take_zero, go_sem, Int.reduceTMod, Int.reduceTDiv, Int.reduceDiv, Int.reduceMod, Int.reduceAdd, Int.reduceSub, Int.reduceMul, Int.reduceNeg, Int.reducePow, Int.reduceEq, ↓reduceIte, Nat.reduceEqDiff, Nat.reduceAdd, Nat.reduceMul, Nat.reduceLeDiff, Nat.reduceSub, Nat.reduceLT, Int.reduceToNat, Int.reduceLT, Int.reduceLE, reduceCtorEq]
    exact ⟨by omega, fun _ _ => trivial, OL.nil⟩
/-- Is a stop right, behind another one? -/
def stOk (p : Option Stp) (s : Stp) : Bool := decide (0 ≤ s.a) && (decide (s.a ≤ 65536) && (crB s.c0 s.c1 s.c2 s.c3 && (match p with | none => true | some p => decide (p.a ≤ s.a))))
def stTo (l : List Stp) : Nat → Bool
  | 0 => true
  | i + 1 => stTo l i && (match l[i]? with | some s => stOk (if i = 0 then none else l[i - 1]?) s | none => true)
def lenB (l : List Stp) : Bool := decide (1 ≤ l.length) && decide (l.length ≤ 16)
def stopsB (l : List Stp) : Bool := lenB l && stTo l l.length
theorem stTo_bad {l : List Stp} {i : Nat} (h : stTo l i = false) : ∀ j, i ≤ j → stTo l j = false := by
  intro j hj
  induction j with
  | zero => rwa [show i = 0 by omega] at h
  | succ j ih =>
    by_cases e : i = j + 1
    · subst e; exact h
    · rw [stTo, ih (by omega)]; rfl
theorem rd_tail {m : Mem} {id o k : Nat} {c : Cell} {cs : List Cell} (h : rd m id o (k + 1) = some (c :: cs)) : rd m id (o + 1) k = some cs := by
  unfold rd at h ⊢
  cases hm : m id with
  | none => rw [hm] at h; simp at h
  | some b =>
    rw [hm] at h
    simp only [rdB] at h ⊢
    split at h
    · rename_i hk
      rw [if_pos (by omega)]
      simp only [Option.some.injEq] at h ⊢
      rw [List.drop_eq_getElem_cons (show o < b.cells.length by omega), List.take_succ_cons] at h
      exact (List.cons.inj h).2
    · cases h
theorem v_Stops (r : Reg) (l : List Stp) (m : Mem) (n : Nat) (hr : RRi m n r l) (hl : l.length < 4294967296) : callF TA 26 [r] m n = some (RB (stopsB l)) := by
  refine callF_of (Fn_ofK (fn := F26) rfl (by simp [F26]) ?_)
  have hlen := hr.len
  try simp only [r26_0, r26_1, r26_2, r26_4, r26_5, r26_3, r26_6, c26, F26, go_sem, Int.reduceTMod, Int.reduceTDiv, Int.reduceDiv, Int.reduceMod, Int.reduceAdd, Int.reduceSub, Int.reduceMul, Int.reduceNeg, Int.reducePow, Int.reduceEq, ↓reduceIte, Nat.reduceEqDiff, Nat.reduceAdd, Nat.reduceMul, Nat.reduceLeDiff, Nat.reduceSub, Nat.reduceLT, Int.reduceToNat, Int.reduceLT, Int.reduceLE, reduceCtorEq]
  repeat' ((first | refine FK_split (fun h_ => ?_) (fun h_ => ?_) | refine GK_split (fun h_ => ?_) (fun h_ => ?_) | refine ite_both (fun h_ => ?_) (fun h_ => ?_)) <;> (try simp only [decide_eq_true_eq, decide_eq_false_iff_not, Bool.not_true, Bool.not_false, Bool.not_eq_true', Bool.not_eq_false', Bool.not_eq_eq_eq_not, Decidable.not_not] at h_) <;> (try simp only [r26_0, r26_1, r26_2, r26_4, r26_5, r26_3, r26_6, c26, F26, h_, go_sem, Int.reduceTMod, Int.reduceTDiv, Int.reduceDiv, Int.reduceMod, Int.reduceAdd, Int.reduceSub, Int.reduceMul, Int.reduceNeg, Int.reducePow, Int.reduceEq, ↓reduceIte, Nat.reduceEqDiff, Nat.reduceAdd, Nat.reduceMul, Nat.reduceLeDiff, Nat.reduceSub, Nat.reduceLT, Int.reduceToNat, Int.reduceLT, Int.reduceLE, reduceCtorEq]))
  refine XK_iter (inv := fun i s => s.e 3 = RI i ∧ s.e 0 = r ∧ s.m = m ∧ s.n = n ∧ stTo l i = true) l.length
    (fun L _ => ⟨fun i hi s hs next => ?_, fun s hs => ?_⟩) 0 (by omega) _ ?_
  · obtain ⟨e, M, N⟩ := s
    obtain ⟨q3, q0, qm, qn, qa⟩ := hs
    simp only at q3 q0 qm qn qa
    subst qm
    subst qn
    have hp : l[i]? = some l[i] := List.getElem?_eq_getElem hi
    obtain ⟨id, off, cap, hr1, hid, hrd⟩ := hr.at ri5 hp
    have hsn : stTo l (i + 1) = (stTo l i && stOk (if i = 0 then none else l[i - 1]?) l[i]) := by rw [stTo, hp]
    generalize l[i] = p at *
    have c2 : ((i : Int) < (l.length : Int)) = True := eq_true (by omega)
    have c3 : (0 ≤ (i : Int)) = True := eq_true (by omega)
    have c7 : IntKind.i64.wrap ((i : Int) + 1) = ((i + 1 : Nat) : Int) := wr_nat (by omega)
    rw [hr1] at q0
    obtain ⟨b, g1, g2⟩ := rd_cell hrd (a := 0) (c := I p.a) rfl
    rw [Nat.add_zero] at g2
    have hcol := rd_tail hrd
    rw [Nat.add_assoc] at hcol
    have hbad : stTo l (i + 1) = false → stopsB l = false := fun h => by unfold stopsB; rw [stTo_bad h _ (by omega), Bool.and_false]
    rw [qa, Bool.true_and] at hsn
    unfold stOk at hsn
    have vr := v_rCRight p.c0 p.c1 p.c2 p.c3
    by_cases a1 : p.a < 0
    · have hf : stopsB l = false := hbad (by rw [hsn, decide_eq_false (by omega)]; rfl)
      try simp only [r26_0, r26_1, r26_2, r26_4, r26_5, r26_3, r26_6, c26, F26, l26_0, q3, q0, lenO, c2, c3, g1, g2, a1, hf, Int.toNat_natCast, go_sem, Int.reduceTMod, Int.reduceTDiv, Int.reduceDiv, Int.reduceMod, Int.reduceAdd, Int.reduceSub, Int.reduceMul, Int.reduceNeg, Int.reducePow, Int.reduceEq, ↓reduceIte, Nat.reduceEqDiff, Nat.reduceAdd, Nat.reduceMul, Nat.reduceLeDiff, Nat.reduceSub, Nat.reduceLT, Int.reduceToNat, Int.reduceLT, Int.reduceLE, reduceCtorEq]
      repeat' ((first | refine FK_split (fun h_ => ?_) (fun h_ => ?_) | refine GK_split (fun h_ => ?_) (fun h_ => ?_) | refine ite_both (fun h_ => ?_) (fun h_ => ?_)) <;> (try simp only [decide_eq_true_eq, decide_eq_false_iff_not, Bool.not_true, Bool.not_false, Bool.not_eq_true', Bool.not_eq_false', Bool.not_eq_eq_eq_not, Decidable.not_not] at h_) <;> (try simp only [r26_0, r26_1, r26_2, r26_4, r26_5, r26_3, r26_6, c26, F26, l26_0, q3, q0, lenO, c2, c3, g1, g2, a1, hf, Int.toNat_natCast, h_, go_sem, Int.reduceTMod, Int.reduceTDiv, Int.reduceDiv, Int.reduceMod, Int.reduceAdd, Int.reduceSub, Int.reduceMul, Int.reduceNeg, Int.reducePow, Int.reduceEq, ↓reduceIte, Nat.reduceEqDiff, Nat.reduceAdd, Nat.reduceMul, Nat.reduceLeDiff, Nat.reduceSub, Nat.reduceLT, Int.reduceToNat, Int.reduceLT, Int.reduceLE, reduceCtorEq]))
    · by_cases a2 : 65536 < p.a
      · have hf : stopsB l = false := hbad (by rw [hsn, decide_eq_false (show ¬ p.a ≤ 65536 by omega), Bool.false_and, Bool.and_false])
        try simp only [r26_0, r26_1, r26_2, r26_4, r26_5, r26_3, r26_6, c26, F26, l26_0, q3, q0, lenO, c2, c3, g1, g2, a1, a2, hf, Int.toNat_natCast, go_sem, Int.reduceTMod, Int.reduceTDiv, Int.reduceDiv, Int.reduceMod, Int.reduceAdd, Int.reduceSub, Int.reduceMul, Int.reduceNeg, Int.reducePow, Int.reduceEq, ↓reduceIte, Nat.reduceEqDiff, Nat.reduceAdd, Nat.reduceMul, Nat.reduceLeDiff, Nat.reduceSub, Nat.reduceLT, Int.reduceToNat, Int.reduceLT, Int.reduceLE, reduceCtorEq]
        repeat' ((first | refine FK_split (fun h_ => ?_) (fun h_ => ?_) | refine GK_split (fun h_ => ?_) (fun h_ => ?_) | refine ite_both (fun h_ => ?_) (fun h_ => ?_)) <;> (try simp only [decide_eq_true_eq, decide_eq_false_iff_not, Bool.not_true, Bool.not_false, Bool.not_eq_true', Bool.not_eq_false', Bool.not_eq_eq_eq_not, Decidable.not_not] at h_) <;> (try simp only [r26_0, r26_1, r26_2, r26_4, r26_5, r26_3, r26_6, c26, F26, l26_0, q3, q0, lenO, c2, c3, g1, g2, a1, a2, hf, Int.toNat_natCast, h_, go_sem, Int.reduceTMod, Int.reduceTDiv, Int.reduceDiv, Int.reduceMod, Int.reduceAdd, Int.reduceSub, Int.reduceMul, Int.reduceNeg, Int.reducePow, Int.reduceEq, ↓reduceIte, Nat.reduceEqDiff, Nat.reduceAdd, Nat.reduceMul, Nat.reduceLeDiff, Nat.reduceSub, Nat.reduceLT, Int.reduceToNat, Int.reduceLT, Int.reduceLE, reduceCtorEq]))
      · rw [decide_eq_true (show 0 ≤ p.a by omega), decide_eq_true (show p.a ≤ 65536 by omega), Bool.true_and, Bool.true_and] at hsn
        cases a3 : crB p.c0 p.c1 p.c2 p.c3
        · rw [a3] at vr hsn
          have hf : stopsB l = false := hbad (by rw [hsn]; rfl)
          try simp only [r26_0, r26_1, r26_2, r26_4, r26_5, r26_3, r26_6, c26, F26, l26_0, q3, q0, lenO, c2, c3, g1, g2, a1, a2, hcol, vr, hf, Int.toNat_natCast, go_sem, Int.reduceTMod, Int.reduceTDiv, Int.reduceDiv, Int.reduceMod, Int.reduceAdd, Int.reduceSub, Int.reduceMul, Int.reduceNeg, Int.reducePow, Int.reduceEq, ↓reduceIte, Nat.reduceEqDiff, Nat.reduceAdd, Nat.reduceMul, Nat.reduceLeDiff, Nat.reduceSub, Nat.reduceLT, Int.reduceToNat, Int.reduceLT, Int.reduceLE, reduceCtorEq]
          repeat' ((first | refine FK_split (fun h_ => ?_) (fun h_ => ?_) | refine GK_split (fun h_ => ?_) (fun h_ => ?_) | refine ite_both (fun h_ => ?_) (fun h_ => ?_)) <;> (try simp only [decide_eq_true_eq, decide_eq_false_iff_not, Bool.not_true, Bool.not_false, Bool.not_eq_true', Bool.not_eq_false', Bool.not_eq_eq_eq_not, Decidable.not_not] at h_) <;> (try simp only [r26_0, r26_1, r26_2, r26_4, r26_5, r26_3, r26_6, c26, F26, l26_0, q3, q0, lenO, c2, c3, g1, g2, a1, a2, hcol, vr, hf, Int.toNat_natCast, h_, go_sem, Int.reduceTMod, Int.reduceTDiv, Int.reduceDiv, Int.reduceMod, Int.reduceAdd, Int.reduceSub, Int.reduceMul, Int.reduceNeg, Int.reducePow, Int.reduceEq, ↓reduceIte, Nat.reduceEqDiff, Nat.reduceAdd, Nat.reduceMul, Nat.reduceLeDiff, Nat.reduceSub, Nat.reduceLT, Int.reduceToNat, Int.reduceLT, Int.reduceLE, reduceCtorEq]))
        · rw [a3] at vr hsn
          rw [Bool.true_and] at hsn
          by_cases a4 : i = 0
          · rw [if_pos a4] at hsn
            have d1 : (0 < (i : Int)) = False := eq_false (by omega)
            try simp only [r26_0, r26_1, r26_2, r26_4, r26_5, r26_3, r26_6, c26, F26, l26_0, q3, q0, lenO, c2, c3, c7, g1, g2, a1, a2, hcol, vr, d1, Int.toNat_natCast, go_sem, Int.reduceTMod, Int.reduceTDiv, Int.reduceDiv, Int.reduceMod, Int.reduceAdd, Int.reduceSub, Int.reduceMul, Int.reduceNeg, Int.reducePow, Int.reduceEq, ↓reduceIte, Nat.reduceEqDiff, Nat.reduceAdd, Nat.reduceMul, Nat.reduceLeDiff, Nat.reduceSub, Nat.reduceLT, Int.reduceToNat, Int.reduceLT, Int.reduceLE, reduceCtorEq]
            repeat' ((first | refine FK_split (fun h_ => ?_) (fun h_ => ?_) | refine GK_split (fun h_ => ?_) (fun h_ => ?_) | refine ite_both (fun h_ => ?_) (fun h_ => ?_)) <;> (try simp only [decide_eq_true_eq, decide_eq_false_iff_not, Bool.not_true, Bool.not_false, Bool.not_eq_true', Bool.not_eq_false', Bool.not_eq_eq_eq_not, Decidable.not_not] at h_) <;> (try simp only [r26_0, r26_1, r26_2, r26_4, r26_5, r26_3, r26_6, c26, F26, l26_0, q3, q0, lenO, c2, c3, c7, g1, g2, a1, a2, hcol, vr, d1, Int.toNat_natCast, h_, go_sem, Int.reduceTMod, Int.reduceTDiv, Int.reduceDiv, Int.reduceMod, Int.reduceAdd, Int.reduceSub, Int.reduceMul, Int.reduceNeg, Int.reducePow, Int.reduceEq, ↓reduceIte, Nat.reduceEqDiff, Nat.reduceAdd, Nat.reduceMul, Nat.reduceLeDiff, Nat.reduceSub, Nat.reduceLT, Int.reduceToNat, Int.reduceLT, Int.reduceLE, reduceCtorEq]))
            refine next _ ⟨?_, ?_, rfl, rfl, hsn⟩
            · simp only [go_sem, Int.reduceTMod, Int.reduceTDiv, Int.reduceDiv, Int.reduceMod, Int.reduceAdd, Int.reduceSub, Int.reduceMul, Int.reduceNeg, Int.reducePow, Int.reduceEq, ↓reduceIte, Nat.reduceEqDiff, Nat.reduceAdd, Nat.reduceMul, Nat.reduceLeDiff, Nat.reduceSub, Nat.reduceLT, Int.reduceToNat, Int.reduceLT, Int.reduceLE, reduceCtorEq]
            · simp only [q0, hr1, go_sem, Int.reduceTMod, Int.reduceTDiv, Int.reduceDiv, Int.reduceMod, Int.reduceAdd, Int.reduceSub, Int.reduceMul, Int.reduceNeg, Int.reducePow, Int.reduceEq, ↓reduceIte, Nat.reduceEqDiff, Nat.reduceAdd, Nat.reduceMul, Nat.reduceLeDiff, Nat.reduceSub, Nat.reduceLT, Int.reduceToNat, Int.reduceLT, Int.reduceLE, reduceCtorEq]
          · rw [if_neg a4] at hsn
            have d1 : (0 < (i : Int)) = True := eq_true (by omega)
            have d2 : IntKind.i64.wrap ((i : Int) - 1) = (i : Int) - 1 := wr_eq (by omega) (by omega)
            have d3 : (0 ≤ (i : Int) - 1) = True := eq_true (by omega)
            have d4 : ((i : Int) - 1 < (l.length : Int)) = True := eq_true (by omega)
            have d5 : ((i : Int) - 1).toNat = i - 1 := by omega
            have hp2 : l[i - 1]? = some (l[i - 1]'(by omega)) := List.getElem?_eq_getElem (by omega)
            obtain ⟨id2, off2, cap2, hr2, hid2, hrd2⟩ := hr.at ri5 hp2
            rw [hr1] at hr2
            simp only [Reg.one.injEq, Cell.sl.injEq, true_and] at hr2
            obtain ⟨rfl, rfl, rfl, _⟩ := hr2
            rw [hp2] at hsn
            generalize (l[i - 1]'(by omega)) = p2 at *
            obtain ⟨b2, g3, g4⟩ := rd_cell hrd2 (a := 0) (c := I p2.a) rfl
            rw [g1] at g3
            cases g3
            rw [Nat.add_zero] at g4
            by_cases a5 : p.a < p2.a
            · have hf : stopsB l = false := hbad (by rw [hsn]; exact decide_eq_false (by omega))
              try simp only [r26_0, r26_1, r26_2, r26_4, r26_5, r26_3, r26_6, c26, F26, l26_0, q3, q0, lenO, c2, c3, c7, g1, g2, g4, a1, a2, hcol, vr, d1, d2, d3, d4, d5, a5, hf, Int.toNat_natCast, go_sem, Int.reduceTMod, Int.reduceTDiv, Int.reduceDiv, Int.reduceMod, Int.reduceAdd, Int.reduceSub, Int.reduceMul, Int.reduceNeg, Int.reducePow, Int.reduceEq, ↓reduceIte, Nat.reduceEqDiff, Nat.reduceAdd, Nat.reduceMul, Nat.reduceLeDiff, Nat.reduceSub, Nat.reduceLT, Int.reduceToNat, Int.reduceLT, Int.reduceLE, reduceCtorEq]
              repeat' ((first | refine FK_split (fun h_ => ?_) (fun h_ => ?_) | refine GK_split (fun h_ => ?_) (fun h_ => ?_) | refine ite_both (fun h_ => ?_) (fun h_ => ?_)) <;> (try simp only [decide_eq_true_eq, decide_eq_false_iff_not, Bool.not_true, Bool.not_false, Bool.not_eq_true', Bool.not_eq_false', Bool.not_eq_eq_eq_not, Decidable.not_not] at h_) <;> (try simp only [r26_0, r26_1, r26_2, r26_4, r26_5, r26_3, r26_6, c26, F26, l26_0, q3, q0, lenO, c2, c3, c7, g1, g2, g4, a1, a2, hcol, vr, d1, d2, d3, d4, d5, a5, hf, Int.toNat_natCast, h_, go_sem, Int.reduceTMod, Int.reduceTDiv, Int.reduceDiv, Int.reduceMod, Int.reduceAdd, Int.reduceSub, Int.reduceMul, Int.reduceNeg, Int.reducePow, Int.reduceEq, ↓reduceIte, Nat.reduceEqDiff, Nat.reduceAdd, Nat.reduceMul, Nat.reduceLeDiff, Nat.reduceSub, Nat.reduceLT, Int.reduceToNat, Int.reduceLT, Int.reduceLE, reduceCtorEq]))
            · have hs2 : stTo l (i + 1) = true := by rw [hsn]; exact decide_eq_true (by omega)
              try simp only [r26_0, r26_1, r26_2, r26_4, r26_5, r26_3, r26_6, c26, F26, l26_0, q3, q0, lenO, c2, c3, c7, g1, g2, g4, a1, a2, hcol, vr, d1, d2, d3, d4, d5, a5, Int.toNat_natCast, go_sem, Int.reduceTMod, Int.reduceTDiv, Int.reduceDiv, Int.reduceMod, Int.reduceAdd, Int.reduceSub, Int.reduceMul, Int.reduceNeg, Int.reducePow, Int.reduceEq, ↓reduceIte, Nat.reduceEqDiff, Nat.reduceAdd, Nat.reduceMul, Nat.reduceLeDiff, Nat.reduceSub, Nat.reduceLT, Int.reduceToNat, Int.reduceLT, Int.reduceLE, reduceCtorEq]
              repeat' ((first | refine FK_split (fun h_ => ?_) (fun h_ => ?_) | refine GK_split (fun h_ => ?_) (fun h_ => ?_) | refine ite_both (fun h_ => ?_) (fun h_ => ?_)) <;> (try simp only [decide_eq_true_eq, decide_eq_false_iff_not, Bool.not_true, Bool.not_false, Bool.not_eq_true', Bool.not_eq_false', Bool.not_eq_eq_eq_not, Decidable.not_not] at h_) <;> (try simp only [r26_0, r26_1, r26_2, r26_4, r26_5, r26_3, r26_6, c26, F26, l26_0, q3, q0, lenO, c2, c3, c7, g1, g2, g4, a1, a2, hcol, vr, d1, d2, d3, d4, d5, a5, Int.toNat_natCast, h_, go_sem, Int.reduceTMod, Int.reduceTDiv, Int.reduceDiv, Int.reduceMod, Int.reduceAdd, Int.reduceSub, Int.reduceMul, Int.reduceNeg, Int.reducePow, Int.reduceEq, ↓reduceIte, Nat.reduceEqDiff, Nat.reduceAdd, Nat.reduceMul, Nat.reduceLeDiff, Nat.reduceSub, Nat.reduceLT, Int.reduceToNat, Int.reduceLT, Int.reduceLE, reduceCtorEq]))
              refine next _ ⟨?_, ?_, rfl, rfl, hs2⟩
              · simp only [go_sem, Int.reduceTMod, Int.reduceTDiv, Int.reduceDiv, Int.reduceMod, Int.reduceAdd, Int.reduceSub, Int.reduceMul, Int.reduceNeg, Int.reducePow, Int.reduceEq, ↓reduceIte, Nat.reduceEqDiff, Nat.reduceAdd, Nat.reduceMul, Nat.reduceLeDiff, Nat.reduceSub, Nat.reduceLT, Int.reduceToNat, Int.reduceLT, Int.reduceLE, reduceCtorEq]
              · simp only [q0, hr1, go_sem, Int.reduceTMod, Int.reduceTDiv, Int.reduceDiv, Int.reduceMod, Int.reduceAdd, Int.reduceSub, Int.reduceMul, Int.reduceNeg, Int.reducePow, Int.reduceEq, ↓reduceIte, Nat.reduceEqDiff, Nat.reduceAdd, Nat.reduceMul, Nat.reduceLeDiff, Nat.reduceSub, Nat.reduceLT, Int.reduceToNat, Int.reduceLT, Int.reduceLE, reduceCtorEq]
  · obtain ⟨e, M, N⟩ := s
    obtain ⟨q3, q0, qm, qn, qa⟩ := hs
    simp only at q3 q0 qm qn qa
    have c2 : ((l.length : Int) < (l.length : Int)) = False := eq_false (by omega)
    have e1 : stopsB l = lenB l := by unfold stopsB; rw [qa, Bool.and_true]
    have e2 : lenB l = (decide ((1 : Int) ≤ l.length) && decide ((l.length : Int) ≤ 16)) := by
      unfold lenB
      congr 1 <;> (congr 1; apply propext; omega)
    rw [e1, e2]
    try simp only [r26_0, r26_1, r26_2, r26_4, r26_5, r26_3, r26_6, c26, F26, l26_0, q3, q0, hlen, c2, go_sem, Int.reduceTMod, Int.reduceTDiv, Int.reduceDiv, Int.reduceMod, Int.reduceAdd, Int.reduceSub, Int.reduceMul, Int.reduceNeg, Int.reducePow, Int.reduceEq, ↓reduceIte, Nat.reduceEqDiff, Nat.reduceAdd, Nat.reduceMul, Nat.reduceLeDiff, Nat.reduceSub, Nat.reduceLT, Int.reduceToNat, Int.reduceLT, Int.reduceLE, reduceCtorEq]
    repeat' ((first | refine FK_split (fun h_ => ?_) (fun h_ => ?_) | refine GK_split (fun h_ => ?_) (fun h_ => ?_) | refine ite_both (fun h_ => ?_) (fun h_ => ?_)) <;> (try simp only [decide_eq_true_eq, decide_eq_false_iff_not, Bool.not_true, Bool.not_false, Bool.not_eq_true', Bool.not_eq_false', Bool.not_eq_eq_eq_not, Decidable.not_not] at h_) <;> (try simp only [r26_0, r26_1, r26_2, r26_4, r26_5, r26_3, r26_6, c26, F26, l26_0, q3, q0, hlen, c2, h_, go_sem, Int.reduceTMod, Int.reduceTDiv, Int.reduceDiv, Int.reduceMod, Int.reduceAdd, Int.reduceSub, Int.reduceMul, Int.reduceNeg, Int.reducePow, Int.reduceEq, ↓reduceIte, Nat.reduceEqDiff, Nat.reduceAdd, Nat.reduceMul, Nat.reduceLeDiff, Nat.reduceSub, Nat.reduceLT, Int.reduceToNat, Int.reduceLT, Int.reduceLE, reduceCtorEq]))
  · simp only [stTo, go_sem, Int.reduceTMod, Int.reduceTDiv, Int.reduceDiv, Int.reduceMod, Int.reduceAdd, Int.reduceSub, Int.reduceMul, Int.reduceNeg, Int.reducePow, Int.reduceEq, ↓reduceIte, Nat.reduceEqDiff, Nat.reduceAdd, Nat.reduceMul, Nat.reduceLeDiff, Nat.reduceSub, Nat.reduceLT, Int.reduceToNat, Int.reduceLT, Int.reduceLE, reduceCtorEq]

/- Stops of shades: the program's check; rows compared. Conditions: those that each theorem names. -/
open Go Go.Proofs
set_option linter.unusedSimpArgs false
set_option linter.unusedVariables false

theorem v_CheckStops (r : Reg) (l : List Stp) (m : Mem) (n : Nat) (hr : RSt m n r l) (hl : l.length < 4294967296) : callF TA 32 [r] m n = some (RI (if stopsB l = true then 0 else 30)) := by
  refine callF_of (Fn_ofK (fn := F32) rfl (by simp [F32]) ?_)
  have hlen := hr.len
  have e2 : (decide ((1 : Int) ≤ l.length) && decide ((l.length : Int) ≤ 16)) = lenB l := by
    unfold lenB
    congr 1 <;> (congr 1; apply propext; omega)
  have go : ∀ (f : Bool) (e : Nat → Reg), f = lenB l → e 3 = RB f → e 16 = RI 0 → e 15 = RI l.length → e 14 = r → e 0 = r → XK TA (.loop l32_0) ⟨e, m, n⟩ (Kt.blk 0 (Kt.seq (.seq (.seq (.reg r32_7) (.cond (.t 54) (.seq (.reg r32_8) .ret) .skip)) (.seq (.reg r32_9) .ret)) (Kt.fin F32.res fun r _ _ => r = RI (if stopsB l = true then 0 else 30)))) := by
    intro f e hf h3 h16 h15 h14 h0
    refine XK_iter (inv := fun i s => s.e 16 = RI i ∧ s.e 15 = RI l.length ∧ s.e 14 = r ∧ s.e 0 = r ∧ s.e 3 = RB (f && stTo l i) ∧ n ≤ s.n ∧ ∀ id, id < n → s.m id = m id) l.length
      (fun L _ => ⟨fun i hi s hs next => ?_, fun s hs => ?_⟩) 0 (by omega) _ ⟨h16, h15, h14, h0, ?_, Nat.le_refl _, fun _ _ => rfl⟩
    · obtain ⟨e, M, N⟩ := s
      obtain ⟨q16, q15, q14, q0, q3, qn, qm⟩ := hs
      simp only at q16 q15 q14 q0 q3 qn qm
      have hr2 : RSt M N r l := hr.keep qn qm
      have hp : l[i]? = some l[i] := List.getElem?_eq_getElem hi
      obtain ⟨id, off, cap, hr1, hid, hrd⟩ := hr2.at cs5 hp
      have hsn : stTo l (i + 1) = (stTo l i && stOk (if i = 0 then none else l[i - 1]?) l[i]) := by rw [stTo, hp]
      generalize l[i] = p at *
      have c2 : ((i : Int) < (l.length : Int)) = True := eq_true (by omega)
      have c3 : (0 ≤ (i : Int)) = True := eq_true (by omega)
      have c7 : IntKind.i64.wrap ((i : Int) + 1) = ((i + 1 : Nat) : Int) := wr_nat (by omega)
      have n1 := na_0 hid
      have n3 : ∀ k, (id = N + k) = False := fun k => na_ne hid
      have vr := v_CRight p.c0 p.c1 p.c2 p.c3
      rw [hr1] at q14 q0
      have hfr : ∀ (b b' : Option Blk) (id2 : Nat), id2 < n → upd (upd M N b) N b' id2 = m id2 := fun b b' id2 h2 => by rw [upd_ne _ _ (by omega), upd_ne _ _ (by omega)]; exact qm id2 h2
      cases hg : (f && stTo l i)
      · rw [hg] at q3
        have hv : (f && stTo l (i + 1)) = false := by rw [hsn, ← Bool.and_assoc, hg]; rfl
        try simp only [r32_0, r32_1, r32_2, r32_3, r32_4, r32_5, r32_6, r32_7, r32_8, r32_9, c32, F32, l32_0, q16, q15, q14, q0, q3, c2, c3, c7, hrd, n1, n3, Int.toNat_natCast, go_sem, Int.reduceTMod, Int.reduceTDiv, Int.reduceDiv, Int.reduceMod, Int.reduceAdd, Int.reduceSub, Int.reduceMul, Int.reduceNeg, Int.reducePow, Int.reduceEq, ↓reduceIte, Nat.reduceEqDiff, Nat.reduceAdd, Nat.reduceMul, Nat.reduceLeDiff, Nat.reduceSub, Nat.reduceLT, Int.reduceToNat, Int.reduceLT, Int.reduceLE, reduceCtorEq]
        repeat' ((first | refine FK_split (fun h_ => ?_) (fun h_ => ?_) | refine GK_split (fun h_ => ?_) (fun h_ => ?_) | refine ite_both (fun h_ => ?_) (fun h_ => ?_)) <;> (try simp only [decide_eq_true_eq, decide_eq_false_iff_not, Bool.not_true, Bool.not_false, Bool.not_eq_true', Bool.not_eq_false', Bool.not_eq_eq_eq_not, Decidable.not_not] at h_) <;> (try simp only [r32_0, r32_1, r32_2, r32_3, r32_4, r32_5, r32_6, r32_7, r32_8, r32_9, c32, F32, l32_0, q16, q15, q14, q0, q3, c2, c3, c7, hrd, n1, n3, Int.toNat_natCast, h_, go_sem, Int.reduceTMod, Int.reduceTDiv, Int.reduceDiv, Int.reduceMod, Int.reduceAdd, Int.reduceSub, Int.reduceMul, Int.reduceNeg, Int.reducePow, Int.reduceEq, ↓reduceIte, Nat.reduceEqDiff, Nat.reduceAdd, Nat.reduceMul, Nat.reduceLeDiff, Nat.reduceSub, Nat.reduceLT, Int.reduceToNat, Int.reduceLT, Int.reduceLE, reduceCtorEq]))
        refine next _ ⟨?_, ?_, ?_, ?_, ?_, ?_, ?_⟩
        · simp only [go_sem, Int.reduceTMod, Int.reduceTDiv, Int.reduceDiv, Int.reduceMod, Int.reduceAdd, Int.reduceSub, Int.reduceMul, Int.reduceNeg, Int.reducePow, Int.reduceEq, ↓reduceIte, Nat.reduceEqDiff, Nat.reduceAdd, Nat.reduceMul, Nat.reduceLeDiff, Nat.reduceSub, Nat.reduceLT, Int.reduceToNat, Int.reduceLT, Int.reduceLE, reduceCtorEq]
        · simp only [q15, go_sem, Int.reduceTMod, Int.reduceTDiv, Int.reduceDiv, Int.reduceMod, Int.reduceAdd, Int.reduceSub, Int.reduceMul, Int.reduceNeg, Int.reducePow, Int.reduceEq, ↓reduceIte, Nat.reduceEqDiff, Nat.reduceAdd, Nat.reduceMul, Nat.reduceLeDiff, Nat.reduceSub, Nat.reduceLT, Int.reduceToNat, Int.reduceLT, Int.reduceLE, reduceCtorEq]
        · simp only [q14, hr1, go_sem, Int.reduceTMod, Int.reduceTDiv, Int.reduceDiv, Int.reduceMod, Int.reduceAdd, Int.reduceSub, Int.reduceMul, Int.reduceNeg, Int.reducePow, Int.reduceEq, ↓reduceIte, Nat.reduceEqDiff, Nat.reduceAdd, Nat.reduceMul, Nat.reduceLeDiff, Nat.reduceSub, Nat.reduceLT, Int.reduceToNat, Int.reduceLT, Int.reduceLE, reduceCtorEq]
        · simp only [q0, hr1, go_sem, Int.reduceTMod, Int.reduceTDiv, Int.reduceDiv, Int.reduceMod, Int.reduceAdd, Int.reduceSub, Int.reduceMul, Int.reduceNeg, Int.reducePow, Int.reduceEq, ↓reduceIte, Nat.reduceEqDiff, Nat.reduceAdd, Nat.reduceMul, Nat.reduceLeDiff, Nat.reduceSub, Nat.reduceLT, Int.reduceToNat, Int.reduceLT, Int.reduceLE, reduceCtorEq]
        · simp only [hv, go_sem, Int.reduceTMod, Int.reduceTDiv, Int.reduceDiv, Int.reduceMod, Int.reduceAdd, Int.reduceSub, Int.reduceMul, Int.reduceNeg, Int.reducePow, Int.reduceEq, ↓reduceIte, Nat.reduceEqDiff, Nat.reduceAdd, Nat.reduceMul, Nat.reduceLeDiff, Nat.reduceSub, Nat.reduceLT, Int.reduceToNat, Int.reduceLT, Int.reduceLE, reduceCtorEq]
        · simp only [go_sem, Int.reduceTMod, Int.reduceTDiv, Int.reduceDiv, Int.reduceMod, Int.reduceAdd, Int.reduceSub, Int.reduceMul, Int.reduceNeg, Int.reducePow, Int.reduceEq, ↓reduceIte, Nat.reduceEqDiff, Nat.reduceAdd, Nat.reduceMul, Nat.reduceLeDiff, Nat.reduceSub, Nat.reduceLT, Int.reduceToNat, Int.reduceLT, Int.reduceLE, reduceCtorEq]
          omega
        · intro id2 h2
          exact hfr _ _ id2 h2
      · rw [hg] at q3
        have hv : (f && stTo l (i + 1)) = stOk (if i = 0 then none else l[i - 1]?) p := by rw [hsn, ← Bool.and_assoc, hg]; rfl
        unfold stOk at hv
        by_cases a4 : i = 0
        · rw [if_pos a4] at hv
          have d1 : ((i : Int) = 0) = True := eq_true (by omega)
          simp only [Bool.and_true] at hv
          try simp only [r32_0, r32_1, r32_2, r32_3, r32_4, r32_5, r32_6, r32_7, r32_8, r32_9, c32, F32, l32_0, q16, q15, q14, q0, q3, c2, c3, c7, hrd, n1, n3, vr, d1, Int.toNat_natCast, go_sem, Int.reduceTMod, Int.reduceTDiv, Int.reduceDiv, Int.reduceMod, Int.reduceAdd, Int.reduceSub, Int.reduceMul, Int.reduceNeg, Int.reducePow, Int.reduceEq, ↓reduceIte, Nat.reduceEqDiff, Nat.reduceAdd, Nat.reduceMul, Nat.reduceLeDiff, Nat.reduceSub, Nat.reduceLT, Int.reduceToNat, Int.reduceLT, Int.reduceLE, reduceCtorEq]
          repeat' ((first | refine FK_split (fun h_ => ?_) (fun h_ => ?_) | refine GK_split (fun h_ => ?_) (fun h_ => ?_) | refine ite_both (fun h_ => ?_) (fun h_ => ?_)) <;> (try simp only [decide_eq_true_eq, decide_eq_false_iff_not, Bool.not_true, Bool.not_false, Bool.not_eq_true', Bool.not_eq_false', Bool.not_eq_eq_eq_not, Decidable.not_not] at h_) <;> (try simp only [r32_0, r32_1, r32_2, r32_3, r32_4, r32_5, r32_6, r32_7, r32_8, r32_9, c32, F32, l32_0, q16, q15, q14, q0, q3, c2, c3, c7, hrd, n1, n3, vr, d1, Int.toNat_natCast, h_, go_sem, Int.reduceTMod, Int.reduceTDiv, Int.reduceDiv, Int.reduceMod, Int.reduceAdd, Int.reduceSub, Int.reduceMul, Int.reduceNeg, Int.reducePow, Int.reduceEq, ↓reduceIte, Nat.reduceEqDiff, Nat.reduceAdd, Nat.reduceMul, Nat.reduceLeDiff, Nat.reduceSub, Nat.reduceLT, Int.reduceToNat, Int.reduceLT, Int.reduceLE, reduceCtorEq]))
          all_goals
            refine next _ ⟨?_, ?_, ?_, ?_, ?_, ?_, ?_⟩
            · simp only [go_sem, Int.reduceTMod, Int.reduceTDiv, Int.reduceDiv, Int.reduceMod, Int.reduceAdd, Int.reduceSub, Int.reduceMul, Int.reduceNeg, Int.reducePow, Int.reduceEq, ↓reduceIte, Nat.reduceEqDiff, Nat.reduceAdd, Nat.reduceMul, Nat.reduceLeDiff, Nat.reduceSub, Nat.reduceLT, Int.reduceToNat, Int.reduceLT, Int.reduceLE, reduceCtorEq]
            · simp only [q15, go_sem, Int.reduceTMod, Int.reduceTDiv, Int.reduceDiv, Int.reduceMod, Int.reduceAdd, Int.reduceSub, Int.reduceMul, Int.reduceNeg, Int.reducePow, Int.reduceEq, ↓reduceIte, Nat.reduceEqDiff, Nat.reduceAdd, Nat.reduceMul, Nat.reduceLeDiff, Nat.reduceSub, Nat.reduceLT, Int.reduceToNat, Int.reduceLT, Int.reduceLE, reduceCtorEq]
            · simp only [q14, hr1, go_sem, Int.reduceTMod, Int.reduceTDiv, Int.reduceDiv, Int.reduceMod, Int.reduceAdd, Int.reduceSub, Int.reduceMul, Int.reduceNeg, Int.reducePow, Int.reduceEq, ↓reduceIte, Nat.reduceEqDiff, Nat.reduceAdd, Nat.reduceMul, Nat.reduceLeDiff, Nat.reduceSub, Nat.reduceLT, Int.reduceToNat, Int.reduceLT, Int.reduceLE, reduceCtorEq]
            · simp only [q0, hr1, go_sem, Int.reduceTMod, Int.reduceTDiv, Int.reduceDiv, Int.reduceMod, Int.reduceAdd, Int.reduceSub, Int.reduceMul, Int.reduceNeg, Int.reducePow, Int.reduceEq, ↓reduceIte, Nat.reduceEqDiff, Nat.reduceAdd, Nat.reduceMul, Nat.reduceLeDiff, Nat.reduceSub, Nat.reduceLT, Int.reduceToNat, Int.reduceLT, Int.reduceLE, reduceCtorEq]
            · simp only [go_sem, Int.reduceTMod, Int.reduceTDiv, Int.reduceDiv, Int.reduceMod, Int.reduceAdd, Int.reduceSub, Int.reduceMul, Int.reduceNeg, Int.reducePow, Int.reduceEq, ↓reduceIte, Nat.reduceEqDiff, Nat.reduceAdd, Nat.reduceMul, Nat.reduceLeDiff, Nat.reduceSub, Nat.reduceLT, Int.reduceToNat, Int.reduceLT, Int.reduceLE, reduceCtorEq]
              rw [hv]
              simp [*]
            · simp only [go_sem, Int.reduceTMod, Int.reduceTDiv, Int.reduceDiv, Int.reduceMod, Int.reduceAdd, Int.reduceSub, Int.reduceMul, Int.reduceNeg, Int.reducePow, Int.reduceEq, ↓reduceIte, Nat.reduceEqDiff, Nat.reduceAdd, Nat.reduceMul, Nat.reduceLeDiff, Nat.reduceSub, Nat.reduceLT, Int.reduceToNat, Int.reduceLT, Int.reduceLE, reduceCtorEq]
              omega
            · intro id2 h2
              exact hfr _ _ id2 h2
        · rw [if_neg a4] at hv
          have d1 : ((i : Int) = 0) = False := eq_false (by omega)
          have d2 : IntKind.i64.wrap ((i : Int) - 1) = (i : Int) - 1 := wr_eq (by omega) (by omega)
          have d3 : (0 ≤ (i : Int) - 1) = True := eq_true (by omega)
          have d4 : ((i : Int) - 1 < (l.length : Int)) = True := eq_true (by omega)
          have d5 : ((i : Int) - 1).toNat = i - 1 := by omega
          have hp2 : l[i - 1]? = some (l[i - 1]'(by omega)) := List.getElem?_eq_getElem (by omega)
          obtain ⟨id2, off2, cap2, hr3, hid2, hrd2⟩ := hr2.at cs5 hp2
          rw [hr1] at hr3
          simp only [Reg.one.injEq, Cell.sl.injEq, true_and] at hr3
          obtain ⟨rfl, rfl, rfl, _⟩ := hr3
          rw [hp2] at hv
          simp only at hv
          generalize (l[i - 1]'(by omega)) = p2 at *
          obtain ⟨b2, g3, g4⟩ := rd_cell hrd2 (a := 0) (c := I p2.a) rfl
          rw [Nat.add_zero] at g4
          try simp only [r32_0, r32_1, r32_2, r32_3, r32_4, r32_5, r32_6, r32_7, r32_8, r32_9, c32, F32, l32_0, q16, q15, q14, q0, q3, c2, c3, c7, hrd, n1, n3, vr, d1, d2, d3, d4, d5, g3, g4, Int.toNat_natCast, go_sem, Int.reduceTMod, Int.reduceTDiv, Int.reduceDiv, Int.reduceMod, Int.reduceAdd, Int.reduceSub, Int.reduceMul, Int.reduceNeg, Int.reducePow, Int.reduceEq, ↓reduceIte, Nat.reduceEqDiff, Nat.reduceAdd, Nat.reduceMul, Nat.reduceLeDiff, Nat.reduceSub, Nat.reduceLT, Int.reduceToNat, Int.reduceLT, Int.reduceLE, reduceCtorEq]
          repeat' ((first | refine FK_split (fun h_ => ?_) (fun h_ => ?_) | refine GK_split (fun h_ => ?_) (fun h_ => ?_) | refine ite_both (fun h_ => ?_) (fun h_ => ?_)) <;> (try simp only [decide_eq_true_eq, decide_eq_false_iff_not, Bool.not_true, Bool.not_false, Bool.not_eq_true', Bool.not_eq_false', Bool.not_eq_eq_eq_not, Decidable.not_not] at h_) <;> (try simp only [r32_0, r32_1, r32_2, r32_3, r32_4, r32_5, r32_6, r32_7, r32_8, r32_9, c32, F32, l32_0, q16, q15, q14, q0, q3, c2, c3, c7, hrd, n1, n3, vr, d1, d2, d3, d4, d5, g3, g4, Int.toNat_natCast, h_, go_sem, Int.reduceTMod, Int.reduceTDiv, Int.reduceDiv, Int.reduceMod, Int.reduceAdd, Int.reduceSub, Int.reduceMul, Int.reduceNeg, Int.reducePow, Int.reduceEq, ↓reduceIte, Nat.reduceEqDiff, Nat.reduceAdd, Nat.reduceMul, Nat.reduceLeDiff, Nat.reduceSub, Nat.reduceLT, Int.reduceToNat, Int.reduceLT, Int.reduceLE, reduceCtorEq]))
          all_goals
            refine next _ ⟨?_, ?_, ?_, ?_, ?_, ?_, ?_⟩
            · simp only [go_sem, Int.reduceTMod, Int.reduceTDiv, Int.reduceDiv, Int.reduceMod, Int.reduceAdd, Int.reduceSub, Int.reduceMul, Int.reduceNeg, Int.reducePow, Int.reduceEq, ↓reduceIte, Nat.reduceEqDiff, Nat.reduceAdd, Nat.reduceMul, Nat.reduceLeDiff, Nat.reduceSub, Nat.reduceLT, Int.reduceToNat, Int.reduceLT, Int.reduceLE, reduceCtorEq]
            · simp only [q15, go_sem, Int.reduceTMod, Int.reduceTDiv, Int.reduceDiv, Int.reduceMod, Int.reduceAdd, Int.reduceSub, Int.reduceMul, Int.reduceNeg, Int.reducePow, Int.reduceEq, ↓reduceIte, Nat.reduceEqDiff, Nat.reduceAdd, Nat.reduceMul, Nat.reduceLeDiff, Nat.reduceSub, Nat.reduceLT, Int.reduceToNat, Int.reduceLT, Int.reduceLE, reduceCtorEq]
            · simp only [q14, hr1, go_sem, Int.reduceTMod, Int.reduceTDiv, Int.reduceDiv, Int.reduceMod, Int.reduceAdd, Int.reduceSub, Int.reduceMul, Int.reduceNeg, Int.reducePow, Int.reduceEq, ↓reduceIte, Nat.reduceEqDiff, Nat.reduceAdd, Nat.reduceMul, Nat.reduceLeDiff, Nat.reduceSub, Nat.reduceLT, Int.reduceToNat, Int.reduceLT, Int.reduceLE, reduceCtorEq]
            · simp only [q0, hr1, go_sem, Int.reduceTMod, Int.reduceTDiv, Int.reduceDiv, Int.reduceMod, Int.reduceAdd, Int.reduceSub, Int.reduceMul, Int.reduceNeg, Int.reducePow, Int.reduceEq, ↓reduceIte, Nat.reduceEqDiff, Nat.reduceAdd, Nat.reduceMul, Nat.reduceLeDiff, Nat.reduceSub, Nat.reduceLT, Int.reduceToNat, Int.reduceLT, Int.reduceLE, reduceCtorEq]
            · simp only [go_sem, Int.reduceTMod, Int.reduceTDiv, Int.reduceDiv, Int.reduceMod, Int.reduceAdd, Int.reduceSub, Int.reduceMul, Int.reduceNeg, Int.reducePow, Int.reduceEq, ↓reduceIte, Nat.reduceEqDiff, Nat.reduceAdd, Nat.reduceMul, Nat.reduceLeDiff, Nat.reduceSub, Nat.reduceLT, Int.reduceToNat, Int.reduceLT, Int.reduceLE, reduceCtorEq]
              rw [hv]
              simp [*]
            · simp only [go_sem, Int.reduceTMod, Int.reduceTDiv, Int.reduceDiv, Int.reduceMod, Int.reduceAdd, Int.reduceSub, Int.reduceMul, Int.reduceNeg, Int.reducePow, Int.reduceEq, ↓reduceIte, Nat.reduceEqDiff, Nat.reduceAdd, Nat.reduceMul, Nat.reduceLeDiff, Nat.reduceSub, Nat.reduceLT, Int.reduceToNat, Int.reduceLT, Int.reduceLE, reduceCtorEq]
              omega
            · intro id2 h2
              exact hfr _ _ id2 h2
    · obtain ⟨e, M, N⟩ := s
      obtain ⟨q16, q15, q14, q0, q3, qn, qm⟩ := hs
      simp only at q16 q15 q14 q0 q3 qn qm
      have c2 : ((l.length : Int) < (l.length : Int)) = False := eq_false (by omega)
      have e3 : (f && stTo l l.length) = stopsB l := by rw [hf]; rfl
      rw [e3] at q3
      cases h : stopsB l <;> rw [h] at q3
      · skip
        try simp only [r32_0, r32_1, r32_2, r32_3, r32_4, r32_5, r32_6, r32_7, r32_8, r32_9, c32, F32, l32_0, q16, q15, q3, c2, go_sem, Int.reduceTMod, Int.reduceTDiv, Int.reduceDiv, Int.reduceMod, Int.reduceAdd, Int.reduceSub, Int.reduceMul, Int.reduceNeg, Int.reducePow, Int.reduceEq, ↓reduceIte, Nat.reduceEqDiff, Nat.reduceAdd, Nat.reduceMul, Nat.reduceLeDiff, Nat.reduceSub, Nat.reduceLT, Int.reduceToNat, Int.reduceLT, Int.reduceLE, reduceCtorEq]
        repeat' ((first | refine FK_split (fun h_ => ?_) (fun h_ => ?_) | refine GK_split (fun h_ => ?_) (fun h_ => ?_) | refine ite_both (fun h_ => ?_) (fun h_ => ?_)) <;> (try simp only [decide_eq_true_eq, decide_eq_false_iff_not, Bool.not_true, Bool.not_false, Bool.not_eq_true', Bool.not_eq_false', Bool.not_eq_eq_eq_not, Decidable.not_not] at h_) <;> (try simp only [r32_0, r32_1, r32_2, r32_3, r32_4, r32_5, r32_6, r32_7, r32_8, r32_9, c32, F32, l32_0, q16, q15, q3, c2, h_, go_sem, Int.reduceTMod, Int.reduceTDiv, Int.reduceDiv, Int.reduceMod, Int.reduceAdd, Int.reduceSub, Int.reduceMul, Int.reduceNeg, Int.reducePow, Int.reduceEq, ↓reduceIte, Nat.reduceEqDiff, Nat.reduceAdd, Nat.reduceMul, Nat.reduceLeDiff, Nat.reduceSub, Nat.reduceLT, Int.reduceToNat, Int.reduceLT, Int.reduceLE, reduceCtorEq]))
      · skip
        try simp only [r32_0, r32_1, r32_2, r32_3, r32_4, r32_5, r32_6, r32_7, r32_8, r32_9, c32, F32, l32_0, q16, q15, q3, c2, go_sem, Int.reduceTMod, Int.reduceTDiv, Int.reduceDiv, Int.reduceMod, Int.reduceAdd, Int.reduceSub, Int.reduceMul, Int.reduceNeg, Int.reducePow, Int.reduceEq, ↓reduceIte, Nat.reduceEqDiff, Nat.reduceAdd, Nat.reduceMul, Nat.reduceLeDiff, Nat.reduceSub, Nat.reduceLT, Int.reduceToNat, Int.reduceLT, Int.reduceLE, reduceCtorEq]
        repeat' ((first | refine FK_split (fun h_ => ?_) (fun h_ => ?_) | refine GK_split (fun h_ => ?_) (fun h_ => ?_) | refine ite_both (fun h_ => ?_) (fun h_ => ?_)) <;> (try simp only [decide_eq_true_eq, decide_eq_false_iff_not, Bool.not_true, Bool.not_false, Bool.not_eq_true', Bool.not_eq_false', Bool.not_eq_eq_eq_not, Decidable.not_not] at h_) <;> (try simp only [r32_0, r32_1, r32_2, r32_3, r32_4, r32_5, r32_6, r32_7, r32_8, r32_9, c32, F32, l32_0, q16, q15, q3, c2, h_, go_sem, Int.reduceTMod, Int.reduceTDiv, Int.reduceDiv, Int.reduceMod, Int.reduceAdd, Int.reduceSub, Int.reduceMul, Int.reduceNeg, Int.reducePow, Int.reduceEq, ↓reduceIte, Nat.reduceEqDiff, Nat.reduceAdd, Nat.reduceMul, Nat.reduceLeDiff, Nat.reduceSub, Nat.reduceLT, Int.reduceToNat, Int.reduceLT, Int.reduceLE, reduceCtorEq]))
    · simp only [h3, stTo, go_sem, Int.reduceTMod, Int.reduceTDiv, Int.reduceDiv, Int.reduceMod, Int.reduceAdd, Int.reduceSub, Int.reduceMul, Int.reduceNeg, Int.reducePow, Int.reduceEq, ↓reduceIte, Nat.reduceEqDiff, Nat.reduceAdd, Nat.reduceMul, Nat.reduceLeDiff, Nat.reduceSub, Nat.reduceLT, Int.reduceToNat, Int.reduceLT, Int.reduceLE, reduceCtorEq]
  have d1 : (1 ≤ (l.length : Int)) = (1 ≤ l.length) := by apply propext; omega
  by_cases a1 : (1 : Int) ≤ l.length
  · by_cases a2 : (l.length : Int) ≤ 16
    · have hf : lenB l = true := by rw [← e2, decide_eq_true a1, decide_eq_true a2]; rfl
      try simp only [r32_0, r32_1, r32_2, r32_3, r32_4, r32_5, r32_6, r32_7, r32_8, r32_9, c32, F32, hlen, a1, a2, go_sem, Int.reduceTMod, Int.reduceTDiv, Int.reduceDiv, Int.reduceMod, Int.reduceAdd, Int.reduceSub, Int.reduceMul, Int.reduceNeg, Int.reducePow, Int.reduceEq, ↓reduceIte, Nat.reduceEqDiff, Nat.reduceAdd, Nat.reduceMul, Nat.reduceLeDiff, Nat.reduceSub, Nat.reduceLT, Int.reduceToNat, Int.reduceLT, Int.reduceLE, reduceCtorEq]
      repeat' ((first | refine FK_split (fun h_ => ?_) (fun h_ => ?_) | refine GK_split (fun h_ => ?_) (fun h_ => ?_) | refine ite_both (fun h_ => ?_) (fun h_ => ?_)) <;> (try simp only [decide_eq_true_eq, decide_eq_false_iff_not, Bool.not_true, Bool.not_false, Bool.not_eq_true', Bool.not_eq_false', Bool.not_eq_eq_eq_not, Decidable.not_not] at h_) <;> (try simp only [r32_0, r32_1, r32_2, r32_3, r32_4, r32_5, r32_6, r32_7, r32_8, r32_9, c32, F32, hlen, a1, a2, h_, go_sem, Int.reduceTMod, Int.reduceTDiv, Int.reduceDiv, Int.reduceMod, Int.reduceAdd, Int.reduceSub, Int.reduceMul, Int.reduceNeg, Int.reducePow, Int.reduceEq, ↓reduceIte, Nat.reduceEqDiff, Nat.reduceAdd, Nat.reduceMul, Nat.reduceLeDiff, Nat.reduceSub, Nat.reduceLT, Int.reduceToNat, Int.reduceLT, Int.reduceLE, reduceCtorEq]))
      exact go true _ hf.symm (by simp only [go_sem, Int.reduceTMod, Int.reduceTDiv, Int.reduceDiv, Int.reduceMod, Int.reduceAdd, Int.reduceSub, Int.reduceMul, Int.reduceNeg, Int.reducePow, Int.reduceEq, ↓reduceIte, Nat.reduceEqDiff, Nat.reduceAdd, Nat.reduceMul, Nat.reduceLeDiff, Nat.reduceSub, Nat.reduceLT, Int.reduceToNat, Int.reduceLT, Int.reduceLE, reduceCtorEq]) (by simp only [go_sem, Int.reduceTMod, Int.reduceTDiv, Int.reduceDiv, Int.reduceMod, Int.reduceAdd, Int.reduceSub, Int.reduceMul, Int.reduceNeg, Int.reducePow, Int.reduceEq, ↓reduceIte, Nat.reduceEqDiff, Nat.reduceAdd, Nat.reduceMul, Nat.reduceLeDiff, Nat.reduceSub, Nat.reduceLT, Int.reduceToNat, Int.reduceLT, Int.reduceLE, reduceCtorEq]) (by simp only [go_sem, Int.reduceTMod, Int.reduceTDiv, Int.reduceDiv, Int.reduceMod, Int.reduceAdd, Int.reduceSub, Int.reduceMul, Int.reduceNeg, Int.reducePow, Int.reduceEq, ↓reduceIte, Nat.reduceEqDiff, Nat.reduceAdd, Nat.reduceMul, Nat.reduceLeDiff, Nat.reduceSub, Nat.reduceLT, Int.reduceToNat, Int.reduceLT, Int.reduceLE, reduceCtorEq]) (by simp only [go_sem, Int.reduceTMod, Int.reduceTDiv, Int.reduceDiv, Int.reduceMod, Int.reduceAdd, Int.reduceSub, Int.reduceMul, Int.reduceNeg, Int.reducePow, Int.reduceEq, ↓reduceIte, Nat.reduceEqDiff, Nat.reduceAdd, Nat.reduceMul, Nat.reduceLeDiff, Nat.reduceSub, Nat.reduceLT, Int.reduceToNat, Int.reduceLT, Int.reduceLE, reduceCtorEq]) (by simp only [go_sem, Int.reduceTMod, Int.reduceTDiv, Int.reduceDiv, Int.reduceMod, Int.reduceAdd, Int.reduceSub, Int.reduceMul, Int.reduceNeg, Int.reducePow, Int.reduceEq, ↓reduceIte, Nat.reduceEqDiff, Nat.reduceAdd, Nat.reduceMul, Nat.reduceLeDiff, Nat.reduceSub, Nat.reduceLT, Int.reduceToNat, Int.reduceLT, Int.reduceLE, reduceCtorEq])
    · have hf : lenB l = false := by rw [← e2, decide_eq_false a2, Bool.and_false]
      try simp only [r32_0, r32_1, r32_2, r32_3, r32_4, r32_5, r32_6, r32_7, r32_8, r32_9, c32, F32, hlen, a1, a2, go_sem, Int.reduceTMod, Int.reduceTDiv, Int.reduceDiv, Int.reduceMod, Int.reduceAdd, Int.reduceSub, Int.reduceMul, Int.reduceNeg, Int.reducePow, Int.reduceEq, ↓reduceIte, Nat.reduceEqDiff, Nat.reduceAdd, Nat.reduceMul, Nat.reduceLeDiff, Nat.reduceSub, Nat.reduceLT, Int.reduceToNat, Int.reduceLT, Int.reduceLE, reduceCtorEq]
      repeat' ((first | refine FK_split (fun h_ => ?_) (fun h_ => ?_) | refine GK_split (fun h_ => ?_) (fun h_ => ?_) | refine ite_both (fun h_ => ?_) (fun h_ => ?_)) <;> (try simp only [decide_eq_true_eq, decide_eq_false_iff_not, Bool.not_true, Bool.not_false, Bool.not_eq_true', Bool.not_eq_false', Bool.not_eq_eq_eq_not, Decidable.not_not] at h_) <;> (try simp only [r32_0, r32_1, r32_2, r32_3, r32_4, r32_5, r32_6, r32_7, r32_8, r32_9, c32, F32, hlen, a1, a2, h_, go_sem, Int.reduceTMod, Int.reduceTDiv, Int.reduceDiv, Int.reduceMod, Int.reduceAdd, Int.reduceSub, Int.reduceMul, Int.reduceNeg, Int.reducePow, Int.reduceEq, ↓reduceIte, Nat.reduceEqDiff, Nat.reduceAdd, Nat.reduceMul, Nat.reduceLeDiff, Nat.reduceSub, Nat.reduceLT, Int.reduceToNat, Int.reduceLT, Int.reduceLE, reduceCtorEq]))
      exact go false _ hf.symm (by simp only [go_sem, Int.reduceTMod, Int.reduceTDiv, Int.reduceDiv, Int.reduceMod, Int.reduceAdd, Int.reduceSub, Int.reduceMul, Int.reduceNeg, Int.reducePow, Int.reduceEq, ↓reduceIte, Nat.reduceEqDiff, Nat.reduceAdd, Nat.reduceMul, Nat.reduceLeDiff, Nat.reduceSub, Nat.reduceLT, Int.reduceToNat, Int.reduceLT, Int.reduceLE, reduceCtorEq]) (by simp only [go_sem, Int.reduceTMod, Int.reduceTDiv, Int.reduceDiv, Int.reduceMod, Int.reduceAdd, Int.reduceSub, Int.reduceMul, Int.reduceNeg, Int.reducePow, Int.reduceEq, ↓reduceIte, Nat.reduceEqDiff, Nat.reduceAdd, Nat.reduceMul, Nat.reduceLeDiff, Nat.reduceSub, Nat.reduceLT, Int.reduceToNat, Int.reduceLT, Int.reduceLE, reduceCtorEq]) (by simp only [go_sem, Int.reduceTMod, Int.reduceTDiv, Int.reduceDiv, Int.reduceMod, Int.reduceAdd, Int.reduceSub, Int.reduceMul, Int.reduceNeg, Int.reducePow, Int.reduceEq, ↓reduceIte, Nat.reduceEqDiff, Nat.reduceAdd, Nat.reduceMul, Nat.reduceLeDiff, Nat.reduceSub, Nat.reduceLT, Int.reduceToNat, Int.reduceLT, Int.reduceLE, reduceCtorEq]) (by simp only [go_sem, Int.reduceTMod, Int.reduceTDiv, Int.reduceDiv, Int.reduceMod, Int.reduceAdd, Int.reduceSub, Int.reduceMul, Int.reduceNeg, Int.reducePow, Int.reduceEq, ↓reduceIte, Nat.reduceEqDiff, Nat.reduceAdd, Nat.reduceMul, Nat.reduceLeDiff, Nat.reduceSub, Nat.reduceLT, Int.reduceToNat, Int.reduceLT, Int.reduceLE, reduceCtorEq]) (by simp only [go_sem, Int.reduceTMod, Int.reduceTDiv, Int.reduceDiv, Int.reduceMod, Int.reduceAdd, Int.reduceSub, Int.reduceMul, Int.reduceNeg, Int.reducePow, Int.reduceEq, ↓reduceIte, Nat.reduceEqDiff, Nat.reduceAdd, Nat.reduceMul, Nat.reduceLeDiff, Nat.reduceSub, Nat.reduceLT, Int.reduceToNat, Int.reduceLT, Int.reduceLE, reduceCtorEq])
  · have hf : lenB l = false := by rw [← e2, decide_eq_false a1, Bool.false_and]
    try simp only [r32_0, r32_1, r32_2, r32_3, r32_4, r32_5, r32_6, r32_7, r32_8, r32_9, c32, F32, hlen, a1, go_sem, Int.reduceTMod, Int.reduceTDiv, Int.reduceDiv, Int.reduceMod, Int.reduceAdd, Int.reduceSub, Int.reduceMul, Int.reduceNeg, Int.reducePow, Int.reduceEq, ↓reduceIte, Nat.reduceEqDiff, Nat.reduceAdd, Nat.reduceMul, Nat.reduceLeDiff, Nat.reduceSub, Nat.reduceLT, Int.reduceToNat, Int.reduceLT, Int.reduceLE, reduceCtorEq]
    repeat' ((first | refine FK_split (fun h_ => ?_) (fun h_ => ?_) | refine GK_split (fun h_ => ?_) (fun h_ => ?_) | refine ite_both (fun h_ => ?_) (fun h_ => ?_)) <;> (try simp only [decide_eq_true_eq, decide_eq_false_iff_not, Bool.not_true, Bool.not_false, Bool.not_eq_true', Bool.not_eq_false', Bool.not_eq_eq_eq_not, Decidable.not_not] at h_) <;> (try simp only [r32_0, r32_1, r32_2, r32_3, r32_4, r32_5, r32_6, r32_7, r32_8, r32_9, c32, F32, hlen, a1, h_, go_sem, Int.reduceTMod, Int.reduceTDiv, Int.reduceDiv, Int.reduceMod, Int.reduceAdd, Int.reduceSub, Int.reduceMul, Int.reduceNeg, Int.reducePow, Int.reduceEq, ↓reduceIte, Nat.reduceEqDiff, Nat.reduceAdd, Nat.reduceMul, Nat.reduceLeDiff, Nat.reduceSub, Nat.reduceLT, Int.reduceToNat, Int.reduceLT, Int.reduceLE, reduceCtorEq]))
    exact go false _ hf.symm (by simp only [go_sem, Int.reduceTMod, Int.reduceTDiv, Int.reduceDiv, Int.reduceMod, Int.reduceAdd, Int.reduceSub, Int.reduceMul, Int.reduceNeg, Int.reducePow, Int.reduceEq, ↓reduceIte, Nat.reduceEqDiff, Nat.reduceAdd, Nat.reduceMul, Nat.reduceLeDiff, Nat.reduceSub, Nat.reduceLT, Int.reduceToNat, Int.reduceLT, Int.reduceLE, reduceCtorEq]) (by simp only [go_sem, Int.reduceTMod, Int.reduceTDiv, Int.reduceDiv, Int.reduceMod, Int.reduceAdd, Int.reduceSub, Int.reduceMul, Int.reduceNeg, Int.reducePow, Int.reduceEq, ↓reduceIte, Nat.reduceEqDiff, Nat.reduceAdd, Nat.reduceMul, Nat.reduceLeDiff, Nat.reduceSub, Nat.reduceLT, Int.reduceToNat, Int.reduceLT, Int.reduceLE, reduceCtorEq]) (by simp only [go_sem, Int.reduceTMod, Int.reduceTDiv, Int.reduceDiv, Int.reduceMod, Int.reduceAdd, Int.reduceSub, Int.reduceMul, Int.reduceNeg, Int.reducePow, Int.reduceEq, ↓reduceIte, Nat.reduceEqDiff, Nat.reduceAdd, Nat.reduceMul, Nat.reduceLeDiff, Nat.reduceSub, Nat.reduceLT, Int.reduceToNat, Int.reduceLT, Int.reduceLE, reduceCtorEq]) (by simp only [go_sem, Int.reduceTMod, Int.reduceTDiv, Int.reduceDiv, Int.reduceMod, Int.reduceAdd, Int.reduceSub, Int.reduceMul, Int.reduceNeg, Int.reducePow, Int.reduceEq, ↓reduceIte, Nat.reduceEqDiff, Nat.reduceAdd, Nat.reduceMul, Nat.reduceLeDiff, Nat.reduceSub, Nat.reduceLT, Int.reduceToNat, Int.reduceLT, Int.reduceLE, reduceCtorEq]) (by simp only [go_sem, Int.reduceTMod, Int.reduceTDiv, Int.reduceDiv, Int.reduceMod, Int.reduceAdd, Int.reduceSub, Int.reduceMul, Int.reduceNeg, Int.reducePow, Int.reduceEq, ↓reduceIte, Nat.reduceEqDiff, Nat.reduceAdd, Nat.reduceMul, Nat.reduceLeDiff, Nat.reduceSub, Nat.reduceLT, Int.reduceToNat, Int.reduceLT, Int.reduceLE, reduceCtorEq])

/- Paints: checked, told right, compared. Conditions: those that each theorem names. -/
open Go Go.Proofs
set_option linter.unusedSimpArgs false
set_option linter.unusedVariables false

structure Pai where
  k : Int
  c0 : Int
  c1 : Int
  c2 : Int
  c3 : Int
  fx : Int
  fy : Int
  tx : Int
  ty : Int
  st : Cell
abbrev Pai.cs (p : Pai) : List Cell := [I p.k, U8 p.c0, U8 p.c1, U8 p.c2, U8 p.c3, I p.fx, I p.fy, I p.tx, I p.ty, p.st]
def Pai.by (p : Pai) : Prop := (byteB p.c0 ∧ byteB p.c1) ∧ byteB p.c2 ∧ byteB p.c3
def farB (x y : Int) : Bool := decide (x < -16777216) || (decide (16777216 < x) || (decide (y < -16777216) || decide (16777216 < y)))
theorem v_far (x y : Int) (m : Mem) (n : Nat) : callF TA 8 [.agg [I x, I y]] m n = some (RB (farB x y)) := by
  refine callF_of (Fn_ofK (fn := F8) rfl (by simp [F8]) ?_)
  unfold farB
  by_cases h1 : x < -16777216
  · skip
    try simp only [r8_0, r8_1, c8, F8, h1, Bool.true_or, Bool.or_true, go_sem, Int.reduceTMod, Int.reduceTDiv, Int.reduceDiv, Int.reduceMod, Int.reduceAdd, Int.reduceSub, Int.reduceMul, Int.reduceNeg, Int.reducePow, Int.reduceEq, ↓reduceIte, Nat.reduceEqDiff, Nat.reduceAdd, Nat.reduceMul, Nat.reduceLeDiff, Nat.reduceSub, Nat.reduceLT, Int.reduceToNat, Int.reduceLT, Int.reduceLE, reduceCtorEq]
    repeat' ((first | refine FK_split (fun h_ => ?_) (fun h_ => ?_) | refine GK_split (fun h_ => ?_) (fun h_ => ?_) | refine ite_both (fun h_ => ?_) (fun h_ => ?_)) <;> (try simp only [decide_eq_true_eq, decide_eq_false_iff_not, Bool.not_true, Bool.not_false, Bool.not_eq_true', Bool.not_eq_false', Bool.not_eq_eq_eq_not, Decidable.not_not] at h_) <;> (try simp only [r8_0, r8_1, c8, F8, h1, Bool.true_or, Bool.or_true, h_, go_sem, Int.reduceTMod, Int.reduceTDiv, Int.reduceDiv, Int.reduceMod, Int.reduceAdd, Int.reduceSub, Int.reduceMul, Int.reduceNeg, Int.reducePow, Int.reduceEq, ↓reduceIte, Nat.reduceEqDiff, Nat.reduceAdd, Nat.reduceMul, Nat.reduceLeDiff, Nat.reduceSub, Nat.reduceLT, Int.reduceToNat, Int.reduceLT, Int.reduceLE, reduceCtorEq]))
  · by_cases h2 : 16777216 < x
    · skip
      try simp only [r8_0, r8_1, c8, F8, h1, h2, Bool.true_or, Bool.or_true, go_sem, Int.reduceTMod, Int.reduceTDiv, Int.reduceDiv, Int.reduceMod, Int.reduceAdd, Int.reduceSub, Int.reduceMul, Int.reduceNeg, Int.reducePow, Int.reduceEq, ↓reduceIte, Nat.reduceEqDiff, Nat.reduceAdd, Nat.reduceMul, Nat.reduceLeDiff, Nat.reduceSub, Nat.reduceLT, Int.reduceToNat, Int.reduceLT, Int.reduceLE, reduceCtorEq]
      repeat' ((first | refine FK_split (fun h_ => ?_) (fun h_ => ?_) | refine GK_split (fun h_ => ?_) (fun h_ => ?_) | refine ite_both (fun h_ => ?_) (fun h_ => ?_)) <;> (try simp only [decide_eq_true_eq, decide_eq_false_iff_not, Bool.not_true, Bool.not_false, Bool.not_eq_true', Bool.not_eq_false', Bool.not_eq_eq_eq_not, Decidable.not_not] at h_) <;> (try simp only [r8_0, r8_1, c8, F8, h1, h2, Bool.true_or, Bool.or_true, h_, go_sem, Int.reduceTMod, Int.reduceTDiv, Int.reduceDiv, Int.reduceMod, Int.reduceAdd, Int.reduceSub, Int.reduceMul, Int.reduceNeg, Int.reducePow, Int.reduceEq, ↓reduceIte, Nat.reduceEqDiff, Nat.reduceAdd, Nat.reduceMul, Nat.reduceLeDiff, Nat.reduceSub, Nat.reduceLT, Int.reduceToNat, Int.reduceLT, Int.reduceLE, reduceCtorEq]))
    · by_cases h3 : y < -16777216
      · skip
        try simp only [r8_0, r8_1, c8, F8, h1, h2, h3, Bool.true_or, Bool.or_true, go_sem, Int.reduceTMod, Int.reduceTDiv, Int.reduceDiv, Int.reduceMod, Int.reduceAdd, Int.reduceSub, Int.reduceMul, Int.reduceNeg, Int.reducePow, Int.reduceEq, ↓reduceIte, Nat.reduceEqDiff, Nat.reduceAdd, Nat.reduceMul, Nat.reduceLeDiff, Nat.reduceSub, Nat.reduceLT, Int.reduceToNat, Int.reduceLT, Int.reduceLE, reduceCtorEq]
        repeat' ((first | refine FK_split (fun h_ => ?_) (fun h_ => ?_) | refine GK_split (fun h_ => ?_) (fun h_ => ?_) | refine ite_both (fun h_ => ?_) (fun h_ => ?_)) <;> (try simp only [decide_eq_true_eq, decide_eq_false_iff_not, Bool.not_true, Bool.not_false, Bool.not_eq_true', Bool.not_eq_false', Bool.not_eq_eq_eq_not, Decidable.not_not] at h_) <;> (try simp only [r8_0, r8_1, c8, F8, h1, h2, h3, Bool.true_or, Bool.or_true, h_, go_sem, Int.reduceTMod, Int.reduceTDiv, Int.reduceDiv, Int.reduceMod, Int.reduceAdd, Int.reduceSub, Int.reduceMul, Int.reduceNeg, Int.reducePow, Int.reduceEq, ↓reduceIte, Nat.reduceEqDiff, Nat.reduceAdd, Nat.reduceMul, Nat.reduceLeDiff, Nat.reduceSub, Nat.reduceLT, Int.reduceToNat, Int.reduceLT, Int.reduceLE, reduceCtorEq]))
      · skip
        try simp only [r8_0, r8_1, c8, F8, h1, h2, h3, Bool.true_or, Bool.or_true, go_sem, Int.reduceTMod, Int.reduceTDiv, Int.reduceDiv, Int.reduceMod, Int.reduceAdd, Int.reduceSub, Int.reduceMul, Int.reduceNeg, Int.reducePow, Int.reduceEq, ↓reduceIte, Nat.reduceEqDiff, Nat.reduceAdd, Nat.reduceMul, Nat.reduceLeDiff, Nat.reduceSub, Nat.reduceLT, Int.reduceToNat, Int.reduceLT, Int.reduceLE, reduceCtorEq]
        repeat' ((first | refine FK_split (fun h_ => ?_) (fun h_ => ?_) | refine GK_split (fun h_ => ?_) (fun h_ => ?_) | refine ite_both (fun h_ => ?_) (fun h_ => ?_)) <;> (try simp only [decide_eq_true_eq, decide_eq_false_iff_not, Bool.not_true, Bool.not_false, Bool.not_eq_true', Bool.not_eq_false', Bool.not_eq_eq_eq_not, Decidable.not_not] at h_) <;> (try simp only [r8_0, r8_1, c8, F8, h1, h2, h3, Bool.true_or, Bool.or_true, h_, go_sem, Int.reduceTMod, Int.reduceTDiv, Int.reduceDiv, Int.reduceMod, Int.reduceAdd, Int.reduceSub, Int.reduceMul, Int.reduceNeg, Int.reducePow, Int.reduceEq, ↓reduceIte, Nat.reduceEqDiff, Nat.reduceAdd, Nat.reduceMul, Nat.reduceLeDiff, Nat.reduceSub, Nat.reduceLT, Int.reduceToNat, Int.reduceLT, Int.reduceLE, reduceCtorEq]))
def Pai.zf (p : Pai) : Bool := p.fx == 0 && p.fy == 0
def Pai.zt (p : Pai) : Bool := p.tx == 0 && p.ty == 0
def Pai.cz (p : Pai) : Bool := p.c0 == 0 && (p.c1 == 0 && (p.c2 == 0 && p.c3 == 0))
def Pai.ft (p : Pai) : Bool := p.fx == p.tx && p.fy == p.ty
def Pai.cr (p : Pai) : Bool := crB p.c0 p.c1 p.c2 p.c3
/-- The error's number of a paint. -/
def rightV (p : Pai) (l : List Stp) : Int :=
  if p.k < 0 ∨ 3 < p.k then 33 else if p.k = 0 then (if (p.zf && (p.zt && decide (l.length = 0)) && p.cz) = true then 0 else 30)
  else if p.k = 1 then (if (p.zf && (p.zt && decide (l.length = 0)) && p.cr) = true then 0 else 30)
  else (if (p.cz && (!farB p.fx p.fy && (!farB p.tx p.ty && (!p.ft && stopsB l)))) = true then 0 else 30)
theorem cz_cr {p : Pai} (h : p.cz = true) : p.cr = true := by
  unfold Pai.cz at h
  simp only [Bool.and_eq_true, beq_iff_eq] at h
  unfold Pai.cr crB
  rw [h.1, h.2.1, h.2.2.1, h.2.2.2]
  rfl
theorem OL.ge {α : Type} {enc : α → List Cell} {sz base : Nat} {m : Mem} {n : Nat} {r : Reg} {l : List α} (h : OL enc sz base m n r l) {id : Nat} (hi : sid r = some id) : base ≤ id := by
  rcases h with ⟨rfl, _⟩ | ⟨id', rfl, h2, _⟩
  · cases hi
  · simp only [sid, Option.some.injEq] at hi; omega
theorem v_right (p : Pai) (l : List Stp) (m : Mem) (n : Nat) (hr : RSt m n (.one p.st) l) (hb : ∀ s ∈ l, s.by) (hp : p.by) (hl : l.length < 4294967296) : callF TA 7 [.agg p.cs] m n = some (RI (rightV p l)) := by
  refine callF_of (Fn_ofK (fn := F7) rfl (by simp [F7]) ?_)
  have hlen := hr.len
  have ez : ((l.length : Int) = 0) = (l.length = 0) := by apply propext; omega
  by_cases k1 : p.k < 0
  · have e : rightV p l = 33 := by unfold rightV; rw [if_pos (Or.inl k1)]
    try simp only [r7_0, r7_1, r7_2, r7_3, r7_4, r7_7, r7_8, r7_9, r7_10, r7_11, r7_12, r7_5, r7_6, r7_13, c7, F7, k1, e, go_sem, Int.reduceTMod, Int.reduceTDiv, Int.reduceDiv, Int.reduceMod, Int.reduceAdd, Int.reduceSub, Int.reduceMul, Int.reduceNeg, Int.reducePow, Int.reduceEq, ↓reduceIte, Nat.reduceEqDiff, Nat.reduceAdd, Nat.reduceMul, Nat.reduceLeDiff, Nat.reduceSub, Nat.reduceLT, Int.reduceToNat, Int.reduceLT, Int.reduceLE, reduceCtorEq]
    repeat' ((first | refine FK_split (fun h_ => ?_) (fun h_ => ?_) | refine GK_split (fun h_ => ?_) (fun h_ => ?_) | refine ite_both (fun h_ => ?_) (fun h_ => ?_)) <;> (try simp only [decide_eq_true_eq, decide_eq_false_iff_not, Bool.not_true, Bool.not_false, Bool.not_eq_true', Bool.not_eq_false', Bool.not_eq_eq_eq_not, Decidable.not_not] at h_) <;> (try simp only [r7_0, r7_1, r7_2, r7_3, r7_4, r7_7, r7_8, r7_9, r7_10, r7_11, r7_12, r7_5, r7_6, r7_13, c7, F7, k1, e, h_, go_sem, Int.reduceTMod, Int.reduceTDiv, Int.reduceDiv, Int.reduceMod, Int.reduceAdd, Int.reduceSub, Int.reduceMul, Int.reduceNeg, Int.reducePow, Int.reduceEq, ↓reduceIte, Nat.reduceEqDiff, Nat.reduceAdd, Nat.reduceMul, Nat.reduceLeDiff, Nat.reduceSub, Nat.reduceLT, Int.reduceToNat, Int.reduceLT, Int.reduceLE, reduceCtorEq]))
  · by_cases k2 : 3 < p.k
    · have e : rightV p l = 33 := by unfold rightV; rw [if_pos (Or.inr k2)]
      try simp only [r7_0, r7_1, r7_2, r7_3, r7_4, r7_7, r7_8, r7_9, r7_10, r7_11, r7_12, r7_5, r7_6, r7_13, c7, F7, k1, k2, e, go_sem, Int.reduceTMod, Int.reduceTDiv, Int.reduceDiv, Int.reduceMod, Int.reduceAdd, Int.reduceSub, Int.reduceMul, Int.reduceNeg, Int.reducePow, Int.reduceEq, ↓reduceIte, Nat.reduceEqDiff, Nat.reduceAdd, Nat.reduceMul, Nat.reduceLeDiff, Nat.reduceSub, Nat.reduceLT, Int.reduceToNat, Int.reduceLT, Int.reduceLE, reduceCtorEq]
      repeat' ((first | refine FK_split (fun h_ => ?_) (fun h_ => ?_) | refine GK_split (fun h_ => ?_) (fun h_ => ?_) | refine ite_both (fun h_ => ?_) (fun h_ => ?_)) <;> (try simp only [decide_eq_true_eq, decide_eq_false_iff_not, Bool.not_true, Bool.not_false, Bool.not_eq_true', Bool.not_eq_false', Bool.not_eq_eq_eq_not, Decidable.not_not] at h_) <;> (try simp only [r7_0, r7_1, r7_2, r7_3, r7_4, r7_7, r7_8, r7_9, r7_10, r7_11, r7_12, r7_5, r7_6, r7_13, c7, F7, k1, k2, e, h_, go_sem, Int.reduceTMod, Int.reduceTDiv, Int.reduceDiv, Int.reduceMod, Int.reduceAdd, Int.reduceSub, Int.reduceMul, Int.reduceNeg, Int.reducePow, Int.reduceEq, ↓reduceIte, Nat.reduceEqDiff, Nat.reduceAdd, Nat.reduceMul, Nat.reduceLeDiff, Nat.reduceSub, Nat.reduceLT, Int.reduceToNat, Int.reduceLT, Int.reduceLE, reduceCtorEq]))
    · have h1 : (p.fx == 0 && p.fy == 0) = p.zf := rfl
      have h2 : (p.tx == 0 && p.ty == 0) = p.zt := rfl
      have h3 : (p.c0 == 0 && (p.c1 == 0 && (p.c2 == 0 && p.c3 == 0))) = p.cz := rfl
      have h4 : (p.fx == p.tx && p.fy == p.ty) = p.ft := rfl
      have h5 := v_rCRight p.c0 p.c1 p.c2 p.c3
      rw [show crB p.c0 p.c1 p.c2 p.c3 = p.cr from rfl] at h5
      have h6 := v_refColor hp.1.1 hp.1.2 hp.2.1 hp.2.2
      have f1 := v_far p.fx p.fy
      have f2 := v_far p.tx p.ty
      have hR : rightV p l = if p.k = 0 then (if (p.zf && (p.zt && decide (l.length = 0)) && p.cz) = true then 0 else 30)
          else if p.k = 1 then (if (p.zf && (p.zt && decide (l.length = 0)) && p.cr) = true then 0 else 30)
          else (if (p.cz && (!farB p.fx p.fy && (!farB p.tx p.ty && (!p.ft && stopsB l)))) = true then 0 else 30) := by
        unfold rightV; rw [if_neg (by omega)]
      by_cases g0 : p.k = 0
      · rw [if_pos g0] at hR
        rw [hR]
        try simp only [r7_0, r7_1, r7_2, r7_3, r7_4, r7_7, r7_8, r7_9, r7_10, r7_11, r7_12, r7_5, r7_6, r7_13, c7, F7, k1, k2, g0, h1, h2, h3, h4, h5, h6, hlen, ez, go_sem, Int.reduceTMod, Int.reduceTDiv, Int.reduceDiv, Int.reduceMod, Int.reduceAdd, Int.reduceSub, Int.reduceMul, Int.reduceNeg, Int.reducePow, Int.reduceEq, ↓reduceIte, Nat.reduceEqDiff, Nat.reduceAdd, Nat.reduceMul, Nat.reduceLeDiff, Nat.reduceSub, Nat.reduceLT, Int.reduceToNat, Int.reduceLT, Int.reduceLE, reduceCtorEq]
        repeat' ((first | refine FK_split (fun h_ => ?_) (fun h_ => ?_) | refine GK_split (fun h_ => ?_) (fun h_ => ?_) | refine ite_both (fun h_ => ?_) (fun h_ => ?_)) <;> (try simp only [decide_eq_true_eq, decide_eq_false_iff_not, Bool.not_true, Bool.not_false, Bool.not_eq_true', Bool.not_eq_false', Bool.not_eq_eq_eq_not, Decidable.not_not] at h_) <;> (try simp only [r7_0, r7_1, r7_2, r7_3, r7_4, r7_7, r7_8, r7_9, r7_10, r7_11, r7_12, r7_5, r7_6, r7_13, c7, F7, k1, k2, g0, h1, h2, h3, h4, h5, h6, hlen, ez, h_, go_sem, Int.reduceTMod, Int.reduceTDiv, Int.reduceDiv, Int.reduceMod, Int.reduceAdd, Int.reduceSub, Int.reduceMul, Int.reduceNeg, Int.reducePow, Int.reduceEq, ↓reduceIte, Nat.reduceEqDiff, Nat.reduceAdd, Nat.reduceMul, Nat.reduceLeDiff, Nat.reduceSub, Nat.reduceLT, Int.reduceToNat, Int.reduceLT, Int.reduceLE, reduceCtorEq]))
        all_goals simp [*]
      · rw [if_neg g0] at hR
        by_cases g1 : p.k = 1
        · rw [if_pos g1] at hR
          rw [hR]
          try simp only [r7_0, r7_1, r7_2, r7_3, r7_4, r7_7, r7_8, r7_9, r7_10, r7_11, r7_12, r7_5, r7_6, r7_13, c7, F7, k1, k2, g0, g1, h1, h2, h3, h4, h5, h6, hlen, ez, go_sem, Int.reduceTMod, Int.reduceTDiv, Int.reduceDiv, Int.reduceMod, Int.reduceAdd, Int.reduceSub, Int.reduceMul, Int.reduceNeg, Int.reducePow, Int.reduceEq, ↓reduceIte, Nat.reduceEqDiff, Nat.reduceAdd, Nat.reduceMul, Nat.reduceLeDiff, Nat.reduceSub, Nat.reduceLT, Int.reduceToNat, Int.reduceLT, Int.reduceLE, reduceCtorEq]
          repeat' ((first | refine FK_split (fun h_ => ?_) (fun h_ => ?_) | refine GK_split (fun h_ => ?_) (fun h_ => ?_) | refine ite_both (fun h_ => ?_) (fun h_ => ?_)) <;> (try simp only [decide_eq_true_eq, decide_eq_false_iff_not, Bool.not_true, Bool.not_false, Bool.not_eq_true', Bool.not_eq_false', Bool.not_eq_eq_eq_not, Decidable.not_not] at h_) <;> (try simp only [r7_0, r7_1, r7_2, r7_3, r7_4, r7_7, r7_8, r7_9, r7_10, r7_11, r7_12, r7_5, r7_6, r7_13, c7, F7, k1, k2, g0, g1, h1, h2, h3, h4, h5, h6, hlen, ez, h_, go_sem, Int.reduceTMod, Int.reduceTDiv, Int.reduceDiv, Int.reduceMod, Int.reduceAdd, Int.reduceSub, Int.reduceMul, Int.reduceNeg, Int.reducePow, Int.reduceEq, ↓reduceIte, Nat.reduceEqDiff, Nat.reduceAdd, Nat.reduceMul, Nat.reduceLeDiff, Nat.reduceSub, Nat.reduceLT, Int.reduceToNat, Int.reduceLT, Int.reduceLE, reduceCtorEq]))
          all_goals simp [*]
        · rw [if_neg g1] at hR
          cases b1 : p.cz
          · have e : rightV p l = 30 := by rw [hR, b1]; rfl
            try simp only [r7_0, r7_1, r7_2, r7_3, r7_4, r7_7, r7_8, r7_9, r7_10, r7_11, r7_12, r7_5, r7_6, r7_13, c7, F7, k1, k2, g0, g1, h1, h2, h3, h4, hlen, ez, b1, e, go_sem, Int.reduceTMod, Int.reduceTDiv, Int.reduceDiv, Int.reduceMod, Int.reduceAdd, Int.reduceSub, Int.reduceMul, Int.reduceNeg, Int.reducePow, Int.reduceEq, ↓reduceIte, Nat.reduceEqDiff, Nat.reduceAdd, Nat.reduceMul, Nat.reduceLeDiff, Nat.reduceSub, Nat.reduceLT, Int.reduceToNat, Int.reduceLT, Int.reduceLE, reduceCtorEq]
            repeat' ((first | refine FK_split (fun h_ => ?_) (fun h_ => ?_) | refine GK_split (fun h_ => ?_) (fun h_ => ?_) | refine ite_both (fun h_ => ?_) (fun h_ => ?_)) <;> (try simp only [decide_eq_true_eq, decide_eq_false_iff_not, Bool.not_true, Bool.not_false, Bool.not_eq_true', Bool.not_eq_false', Bool.not_eq_eq_eq_not, Decidable.not_not] at h_) <;> (try simp only [r7_0, r7_1, r7_2, r7_3, r7_4, r7_7, r7_8, r7_9, r7_10, r7_11, r7_12, r7_5, r7_6, r7_13, c7, F7, k1, k2, g0, g1, h1, h2, h3, h4, hlen, ez, b1, e, h_, go_sem, Int.reduceTMod, Int.reduceTDiv, Int.reduceDiv, Int.reduceMod, Int.reduceAdd, Int.reduceSub, Int.reduceMul, Int.reduceNeg, Int.reducePow, Int.reduceEq, ↓reduceIte, Nat.reduceEqDiff, Nat.reduceAdd, Nat.reduceMul, Nat.reduceLeDiff, Nat.reduceSub, Nat.reduceLT, Int.reduceToNat, Int.reduceLT, Int.reduceLE, reduceCtorEq]))
          · cases b2 : farB p.fx p.fy
            · cases b3 : farB p.tx p.ty
              · cases b4 : p.ft
                · have e : rightV p l = if stopsB l = true then 0 else 30 := by rw [hR, b1, b2, b3, b4]; simp
                  rw [b2] at f1
                  rw [b3] at f2
                  rw [e]
                  try simp only [r7_0, r7_1, r7_2, r7_3, r7_4, r7_7, r7_8, r7_9, r7_10, r7_11, r7_12, r7_5, r7_6, r7_13, c7, F7, k1, k2, g0, g1, h1, h2, h3, h4, hlen, ez, b1, b4, f1, f2, go_sem, Int.reduceTMod, Int.reduceTDiv, Int.reduceDiv, Int.reduceMod, Int.reduceAdd, Int.reduceSub, Int.reduceMul, Int.reduceNeg, Int.reducePow, Int.reduceEq, ↓reduceIte, Nat.reduceEqDiff, Nat.reduceAdd, Nat.reduceMul, Nat.reduceLeDiff, Nat.reduceSub, Nat.reduceLT, Int.reduceToNat, Int.reduceLT, Int.reduceLE, reduceCtorEq]
                  repeat' ((first | refine FK_split (fun h_ => ?_) (fun h_ => ?_) | refine GK_split (fun h_ => ?_) (fun h_ => ?_) | refine ite_both (fun h_ => ?_) (fun h_ => ?_)) <;> (try simp only [decide_eq_true_eq, decide_eq_false_iff_not, Bool.not_true, Bool.not_false, Bool.not_eq_true', Bool.not_eq_false', Bool.not_eq_eq_eq_not, Decidable.not_not] at h_) <;> (try simp only [r7_0, r7_1, r7_2, r7_3, r7_4, r7_7, r7_8, r7_9, r7_10, r7_11, r7_12, r7_5, r7_6, r7_13, c7, F7, k1, k2, g0, g1, h1, h2, h3, h4, hlen, ez, b1, b4, f1, f2, h_, go_sem, Int.reduceTMod, Int.reduceTDiv, Int.reduceDiv, Int.reduceMod, Int.reduceAdd, Int.reduceSub, Int.reduceMul, Int.reduceNeg, Int.reducePow, Int.reduceEq, ↓reduceIte, Nat.reduceEqDiff, Nat.reduceAdd, Nat.reduceMul, Nat.reduceLeDiff, Nat.reduceSub, Nat.reduceLT, Int.reduceToNat, Int.reduceLT, Int.reduceLE, reduceCtorEq]))
                  all_goals
                    refine RK_callk ?_
                    refine (v_refStops (.one p.st) l _ _ (RL.frz (hr.keep (show n ≤ n + 1 by omega) (fun id hid => upd_ne _ _ (by omega)))) hb hl).mono ?_
                    rintro r1 m1 n1 ⟨ho, hn1⟩
                    have hx : RRi (unfrz (upd m n (some ⟨p.cs, true⟩)) (n + 1) m1) (max (n + 1) n1) r1 l := (ho.rl ri5).keep' (by omega) (fun id hid => by rw [unfrz_at, if_neg (by have := ho.ge hid; omega)])
                    have vS := v_Stops r1 l _ _ hx.frz hl
                    cases hs : stopsB l
                    · rw [hs] at vS
                      try simp only [vS, go_sem, Int.reduceTMod, Int.reduceTDiv, Int.reduceDiv, Int.reduceMod, Int.reduceAdd, Int.reduceSub, Int.reduceMul, Int.reduceNeg, Int.reducePow, Int.reduceEq, ↓reduceIte, Nat.reduceEqDiff, Nat.reduceAdd, Nat.reduceMul, Nat.reduceLeDiff, Nat.reduceSub, Nat.reduceLT, Int.reduceToNat, Int.reduceLT, Int.reduceLE, reduceCtorEq]
                      repeat' ((first | refine FK_split (fun h_ => ?_) (fun h_ => ?_) | refine GK_split (fun h_ => ?_) (fun h_ => ?_) | refine ite_both (fun h_ => ?_) (fun h_ => ?_)) <;> (try simp only [decide_eq_true_eq, decide_eq_false_iff_not, Bool.not_true, Bool.not_false, Bool.not_eq_true', Bool.not_eq_false', Bool.not_eq_eq_eq_not, Decidable.not_not] at h_) <;> (try simp only [vS, h_, go_sem, Int.reduceTMod, Int.reduceTDiv, Int.reduceDiv, Int.reduceMod, Int.reduceAdd, Int.reduceSub, Int.reduceMul, Int.reduceNeg, Int.reducePow, Int.reduceEq, ↓reduceIte, Nat.reduceEqDiff, Nat.reduceAdd, Nat.reduceMul, Nat.reduceLeDiff, Nat.reduceSub, Nat.reduceLT, Int.reduceToNat, Int.reduceLT, Int.reduceLE, reduceCtorEq]))
                    · rw [hs] at vS
                      try simp only [vS, go_sem, Int.reduceTMod, Int.reduceTDiv, Int.reduceDiv, Int.reduceMod, Int.reduceAdd, Int.reduceSub, Int.reduceMul, Int.reduceNeg, Int.reducePow, Int.reduceEq, ↓reduceIte, Nat.reduceEqDiff, Nat.reduceAdd, Nat.reduceMul, Nat.reduceLeDiff, Nat.reduceSub, Nat.reduceLT, Int.reduceToNat, Int.reduceLT, Int.reduceLE, reduceCtorEq]
                      repeat' ((first | refine FK_split (fun h_ => ?_) (fun h_ => ?_) | refine GK_split (fun h_ => ?_) (fun h_ => ?_) | refine ite_both (fun h_ => ?_) (fun h_ => ?_)) <;> (try simp only [decide_eq_true_eq, decide_eq_false_iff_not, Bool.not_true, Bool.not_false, Bool.not_eq_true', Bool.not_eq_false', Bool.not_eq_eq_eq_not, Decidable.not_not] at h_) <;> (try simp only [vS, h_, go_sem, Int.reduceTMod, Int.reduceTDiv, Int.reduceDiv, Int.reduceMod, Int.reduceAdd, Int.reduceSub, Int.reduceMul, Int.reduceNeg, Int.reducePow, Int.reduceEq, ↓reduceIte, Nat.reduceEqDiff, Nat.reduceAdd, Nat.reduceMul, Nat.reduceLeDiff, Nat.reduceSub, Nat.reduceLT, Int.reduceToNat, Int.reduceLT, Int.reduceLE, reduceCtorEq]))
                · have e : rightV p l = 30 := by rw [hR, b4]; simp
                  rw [b2] at f1
                  rw [b3] at f2
                  try simp only [r7_0, r7_1, r7_2, r7_3, r7_4, r7_7, r7_8, r7_9, r7_10, r7_11, r7_12, r7_5, r7_6, r7_13, c7, F7, k1, k2, g0, g1, h1, h2, h3, h4, hlen, ez, b1, b4, f1, f2, e, go_sem, Int.reduceTMod, Int.reduceTDiv, Int.reduceDiv, Int.reduceMod, Int.reduceAdd, Int.reduceSub, Int.reduceMul, Int.reduceNeg, Int.reducePow, Int.reduceEq, ↓reduceIte, Nat.reduceEqDiff, Nat.reduceAdd, Nat.reduceMul, Nat.reduceLeDiff, Nat.reduceSub, Nat.reduceLT, Int.reduceToNat, Int.reduceLT, Int.reduceLE, reduceCtorEq]
                  repeat' ((first | refine FK_split (fun h_ => ?_) (fun h_ => ?_) | refine GK_split (fun h_ => ?_) (fun h_ => ?_) | refine ite_both (fun h_ => ?_) (fun h_ => ?_)) <;> (try simp only [decide_eq_true_eq, decide_eq_false_iff_not, Bool.not_true, Bool.not_false, Bool.not_eq_true', Bool.not_eq_false', Bool.not_eq_eq_eq_not, Decidable.not_not] at h_) <;> (try simp only [r7_0, r7_1, r7_2, r7_3, r7_4, r7_7, r7_8, r7_9, r7_10, r7_11, r7_12, r7_5, r7_6, r7_13, c7, F7, k1, k2, g0, g1, h1, h2, h3, h4, hlen, ez, b1, b4, f1, f2, e, h_, go_sem, Int.reduceTMod, Int.reduceTDiv, Int.reduceDiv, Int.reduceMod, Int.reduceAdd, Int.reduceSub, Int.reduceMul, Int.reduceNeg, Int.reducePow, Int.reduceEq, ↓reduceIte, Nat.reduceEqDiff, Nat.reduceAdd, Nat.reduceMul, Nat.reduceLeDiff, Nat.reduceSub, Nat.reduceLT, Int.reduceToNat, Int.reduceLT, Int.reduceLE, reduceCtorEq]))
              · have e : rightV p l = 30 := by rw [hR, b3]; simp
                rw [b2] at f1
                rw [b3] at f2
                try simp only [r7_0, r7_1, r7_2, r7_3, r7_4, r7_7, r7_8, r7_9, r7_10, r7_11, r7_12, r7_5, r7_6, r7_13, c7, F7, k1, k2, g0, g1, h1, h2, h3, h4, hlen, ez, b1, f1, f2, e, go_sem, Int.reduceTMod, Int.reduceTDiv, Int.reduceDiv, Int.reduceMod, Int.reduceAdd, Int.reduceSub, Int.reduceMul, Int.reduceNeg, Int.reducePow, Int.reduceEq, ↓reduceIte, Nat.reduceEqDiff, Nat.reduceAdd, Nat.reduceMul, Nat.reduceLeDiff, Nat.reduceSub, Nat.reduceLT, Int.reduceToNat, Int.reduceLT, Int.reduceLE, reduceCtorEq]
                repeat' ((first | refine FK_split (fun h_ => ?_) (fun h_ => ?_) | refine GK_split (fun h_ => ?_) (fun h_ => ?_) | refine ite_both (fun h_ => ?_) (fun h_ => ?_)) <;> (try simp only [decide_eq_true_eq, decide_eq_false_iff_not, Bool.not_true, Bool.not_false, Bool.not_eq_true', Bool.not_eq_false', Bool.not_eq_eq_eq_not, Decidable.not_not] at h_) <;> (try simp only [r7_0, r7_1, r7_2, r7_3, r7_4, r7_7, r7_8, r7_9, r7_10, r7_11, r7_12, r7_5, r7_6, r7_13, c7, F7, k1, k2, g0, g1, h1, h2, h3, h4, hlen, ez, b1, f1, f2, e, h_, go_sem, Int.reduceTMod, Int.reduceTDiv, Int.reduceDiv, Int.reduceMod, Int.reduceAdd, Int.reduceSub, Int.reduceMul, Int.reduceNeg, Int.reducePow, Int.reduceEq, ↓reduceIte, Nat.reduceEqDiff, Nat.reduceAdd, Nat.reduceMul, Nat.reduceLeDiff, Nat.reduceSub, Nat.reduceLT, Int.reduceToNat, Int.reduceLT, Int.reduceLE, reduceCtorEq]))
            · have e : rightV p l = 30 := by rw [hR, b2]; simp
              rw [b2] at f1
              try simp only [r7_0, r7_1, r7_2, r7_3, r7_4, r7_7, r7_8, r7_9, r7_10, r7_11, r7_12, r7_5, r7_6, r7_13, c7, F7, k1, k2, g0, g1, h1, h2, h3, h4, hlen, ez, b1, f1, e, go_sem, Int.reduceTMod, Int.reduceTDiv, Int.reduceDiv, Int.reduceMod, Int.reduceAdd, Int.reduceSub, Int.reduceMul, Int.reduceNeg, Int.reducePow, Int.reduceEq, ↓reduceIte, Nat.reduceEqDiff, Nat.reduceAdd, Nat.reduceMul, Nat.reduceLeDiff, Nat.reduceSub, Nat.reduceLT, Int.reduceToNat, Int.reduceLT, Int.reduceLE, reduceCtorEq]
              repeat' ((first | refine FK_split (fun h_ => ?_) (fun h_ => ?_) | refine GK_split (fun h_ => ?_) (fun h_ => ?_) | refine ite_both (fun h_ => ?_) (fun h_ => ?_)) <;> (try simp only [decide_eq_true_eq, decide_eq_false_iff_not, Bool.not_true, Bool.not_false, Bool.not_eq_true', Bool.not_eq_false', Bool.not_eq_eq_eq_not, Decidable.not_not] at h_) <;> (try simp only [r7_0, r7_1, r7_2, r7_3, r7_4, r7_7, r7_8, r7_9, r7_10, r7_11, r7_12, r7_5, r7_6, r7_13, c7, F7, k1, k2, g0, g1, h1, h2, h3, h4, hlen, ez, b1, f1, e, h_, go_sem, Int.reduceTMod, Int.reduceTDiv, Int.reduceDiv, Int.reduceMod, Int.reduceAdd, Int.reduceSub, Int.reduceMul, Int.reduceNeg, Int.reducePow, Int.reduceEq, ↓reduceIte, Nat.reduceEqDiff, Nat.reduceAdd, Nat.reduceMul, Nat.reduceLeDiff, Nat.reduceSub, Nat.reduceLT, Int.reduceToNat, Int.reduceLT, Int.reduceLE, reduceCtorEq]))

/- Places of shades walked: along a line, from a point outward. Conditions: those that each theorem names. -/
open Go Go.Proofs
set_option linter.unusedSimpArgs false
set_option linter.unusedVariables false

def clipV (n : Int) : Int := if n < -16777216 then -16777216 else if 16777216 < n then 16777216 else n
theorem clip_bd (n : Int) : -16777216 ≤ clipV n ∧ clipV n ≤ 16777216 := by unfold clipV; split <;> (try split) <;> omega
theorem far_iff {x y : Int} : farB x y = false ↔ (-16777216 ≤ x ∧ x ≤ 16777216) ∧ -16777216 ≤ y ∧ y ≤ 16777216 := by
  simp only [farB, Bool.or_eq_false_iff, decide_eq_false_iff_not]; omega
theorem clip_far (x y : Int) : farB (clipV x) (clipV y) = false := far_iff.2 ⟨clip_bd x, clip_bd y⟩
theorem clip_id {x y : Int} (h : farB x y = false) : clipV x = x ∧ clipV y = y := by
  rw [far_iff] at h
  unfold clipV
  rw [if_neg (by omega), if_neg (by omega), if_neg (by omega), if_neg (by omega)]
  exact ⟨rfl, rfl⟩
theorem v_clip (a : Int) (m : Mem) (n : Nat) : callF TA 27 [RI a] m n = some (RI (clipV a)) := by
  refine callF_of (Fn_ofK (fn := F27) rfl (by simp [F27]) ?_)
  have e : mnI (mxI a (-16777216)) 16777216 = clipV a := by unfold mnI mxI clipV; split <;> split <;> (try split) <;> omega
  try simp only [r27_0, r27_1, c27, F27, maxI_two, minI_two, e, go_sem, Int.reduceTMod, Int.reduceTDiv, Int.reduceDiv, Int.reduceMod, Int.reduceAdd, Int.reduceSub, Int.reduceMul, Int.reduceNeg, Int.reducePow, Int.reduceEq, ↓reduceIte, Nat.reduceEqDiff, Nat.reduceAdd, Nat.reduceMul, Nat.reduceLeDiff, Nat.reduceSub, Nat.reduceLT, Int.reduceToNat, Int.reduceLT, Int.reduceLE, reduceCtorEq]
  repeat' ((first | refine FK_split (fun h_ => ?_) (fun h_ => ?_) | refine GK_split (fun h_ => ?_) (fun h_ => ?_) | refine ite_both (fun h_ => ?_) (fun h_ => ?_)) <;> (try simp only [decide_eq_true_eq, decide_eq_false_iff_not, Bool.not_true, Bool.not_false, Bool.not_eq_true', Bool.not_eq_false', Bool.not_eq_eq_eq_not, Decidable.not_not] at h_) <;> (try simp only [r27_0, r27_1, c27, F27, maxI_two, minI_two, e, h_, go_sem, Int.reduceTMod, Int.reduceTDiv, Int.reduceDiv, Int.reduceMod, Int.reduceAdd, Int.reduceSub, Int.reduceMul, Int.reduceNeg, Int.reducePow, Int.reduceEq, ↓reduceIte, Nat.reduceEqDiff, Nat.reduceAdd, Nat.reduceMul, Nat.reduceLeDiff, Nat.reduceSub, Nat.reduceLT, Int.reduceToNat, Int.reduceLT, Int.reduceLE, reduceCtorEq]))
def nA (fx fy tx ty x y : Int) : Int := (x - fx) * (tx - fx) + (y - fy) * (ty - fy)
def dA (fx fy tx ty : Int) : Int := (tx - fx) * (tx - fx) + (ty - fy) * (ty - fy)
theorem sq_le {z : Int} (h1 : -33554432 ≤ z) (h2 : z ≤ 33554432) : 0 ≤ z * z ∧ z * z ≤ 1125899906842624 ∧ z ≤ z * z ∧ -z ≤ z * z := by
  rcases Int.le_total 0 z with k | k
  · refine ⟨Int.mul_nonneg k k, by have := Int.mul_le_mul h2 h2 k (by omega); omega, ?_, by have := Int.mul_nonneg k k; omega⟩
    rcases Int.le_total z 0 with h | h
    · have := Int.mul_nonneg k k; omega
    · by_cases hz : z = 0
      · subst hz; decide
      · have := Int.mul_le_mul_of_nonneg_left (show (1 : Int) ≤ z by omega) k; omega
  · have e : z * z = (-z) * (-z) := (Int.neg_mul_neg z z).symm
    rw [e]
    refine ⟨Int.mul_nonneg (by omega) (by omega), by have := Int.mul_le_mul (show -z ≤ 33554432 by omega) (show -z ≤ 33554432 by omega) (by omega) (by omega); omega, by have := Int.mul_nonneg (show 0 ≤ -z by omega) (show 0 ≤ -z by omega); omega, ?_⟩
    by_cases hz : z = 0
    · subst hz; decide
    · have := Int.mul_le_mul_of_nonneg_left (show (1 : Int) ≤ -z by omega) (show 0 ≤ -z by omega); omega
theorem prod_le {v z : Int} (h1 : -33554432 ≤ v) (h2 : v ≤ 33554432) (h3 : -33554432 ≤ z) (h4 : z ≤ 33554432) : -(33554432 * (z * z)) ≤ v * z ∧ v * z ≤ 33554432 * (z * z) ∧ -1125899906842624 ≤ v * z ∧ v * z ≤ 1125899906842624 := by
  obtain ⟨q1, q2, q3, q4⟩ := sq_le h3 h4
  rcases Int.le_total 0 z with k | k
  · have a1 := Int.mul_le_mul_of_nonneg_right h2 k
    have a2 := Int.mul_le_mul_of_nonneg_right h1 k
    omega
  · have a1 := Int.mul_le_mul_of_nonneg_right h2 (show 0 ≤ -z by omega)
    have a2 := Int.mul_le_mul_of_nonneg_right h1 (show 0 ≤ -z by omega)
    rw [Int.mul_neg, Int.mul_neg] at a1 a2
    omega
structure Near (fx fy tx ty : Int) : Prop where
  f : farB fx fy = false
  t : farB tx ty = false
  ne : ¬ (fx = tx ∧ fy = ty)
theorem dA_bd {fx fy tx ty : Int} (h : Near fx fy tx ty) : 0 < dA fx fy tx ty ∧ dA fx fy tx ty ≤ 2251799813685248 := by
  have hf := far_iff.1 h.f
  have ht := far_iff.1 h.t
  have hn := h.ne
  obtain ⟨a1, a2, a3, a4⟩ := sq_le (z := tx - fx) (by omega) (by omega)
  obtain ⟨b1, b2, b3, b4⟩ := sq_le (z := ty - fy) (by omega) (by omega)
  unfold dA
  generalize (tx - fx) * (tx - fx) = X at *
  generalize (ty - fy) * (ty - fy) = Y at *
  omega
theorem nA_bd {fx fy tx ty x y : Int} (h : Near fx fy tx ty) (hq : farB x y = false) : -(33554432 * dA fx fy tx ty) ≤ nA fx fy tx ty x y ∧ nA fx fy tx ty x y ≤ 33554432 * dA fx fy tx ty ∧ -2251799813685248 ≤ nA fx fy tx ty x y ∧ nA fx fy tx ty x y ≤ 2251799813685248 := by
  have hf := far_iff.1 h.f
  have ht := far_iff.1 h.t
  rw [far_iff] at hq
  obtain ⟨a1, a2, a3, a4⟩ := prod_le (v := x - fx) (z := tx - fx) (by omega) (by omega) (by omega) (by omega)
  obtain ⟨b1, b2, b3, b4⟩ := prod_le (v := y - fy) (z := ty - fy) (by omega) (by omega) (by omega) (by omega)
  unfold dA nA
  rw [Int.mul_add]
  omega
def alongV (fx fy tx ty x y : Int) : Int := nA fx fy tx ty x y * 65536 / dA fx fy tx ty
theorem v_along (p : Pai) (x y : Int) (h : Near p.fx p.fy p.tx p.ty) (hq : farB x y = false) (m : Mem) (n : Nat) :
    callF TA 29 [.agg p.cs, .agg [I x, I y]] m n = some (RI (alongV p.fx p.fy p.tx p.ty x y)) := by
  refine callF_of (Fn_ofK (fn := F29) rfl (by simp [F29]) ?_)
  obtain ⟨d0, d1⟩ := dA_bd h
  obtain ⟨n1, n2, n3, n4⟩ := nA_bd h hq
  obtain ⟨ex, md⟩ := v_MulDivG (nA p.fx p.fy p.tx p.ty x y) 65536 (dA p.fx p.fy p.tx p.ty) (by omega) (by omega) d0 (by omega) (by omega) (by omega) (fun _ => none) 0
  have hf := far_iff.1 h.f
  have ht := far_iff.1 h.t
  rw [far_iff] at hq
  have e1 : IntKind.i64.wrap (p.tx - p.fx) = p.tx - p.fx := wr_eq (by omega) (by omega)
  have e2 : IntKind.i64.wrap (p.ty - p.fy) = p.ty - p.fy := wr_eq (by omega) (by omega)
  have e3 : IntKind.i64.wrap (x - p.fx) = x - p.fx := wr_eq (by omega) (by omega)
  have e4 : IntKind.i64.wrap (y - p.fy) = y - p.fy := wr_eq (by omega) (by omega)
  obtain ⟨a1, a2, a3, a4⟩ := prod_le (v := x - p.fx) (z := p.tx - p.fx) (by omega) (by omega) (by omega) (by omega)
  obtain ⟨b1, b2, b3, b4⟩ := prod_le (v := y - p.fy) (z := p.ty - p.fy) (by omega) (by omega) (by omega) (by omega)
  obtain ⟨c1, c2, c3, c4⟩ := sq_le (z := p.tx - p.fx) (by omega) (by omega)
  obtain ⟨g1, g2, g3, g4⟩ := sq_le (z := p.ty - p.fy) (by omega) (by omega)
  have e5 : IntKind.i64.wrap ((x - p.fx) * (p.tx - p.fx)) = (x - p.fx) * (p.tx - p.fx) := wr_eq (by omega) (by omega)
  have e6 : IntKind.i64.wrap ((y - p.fy) * (p.ty - p.fy)) = (y - p.fy) * (p.ty - p.fy) := wr_eq (by omega) (by omega)
  have e7 : IntKind.i64.wrap ((p.tx - p.fx) * (p.tx - p.fx)) = (p.tx - p.fx) * (p.tx - p.fx) := wr_eq (by omega) (by omega)
  have e8 : IntKind.i64.wrap ((p.ty - p.fy) * (p.ty - p.fy)) = (p.ty - p.fy) * (p.ty - p.fy) := wr_eq (by omega) (by omega)
  have e9 : IntKind.i64.wrap ((x - p.fx) * (p.tx - p.fx) + (y - p.fy) * (p.ty - p.fy)) = nA p.fx p.fy p.tx p.ty x y := wr_eq (by omega) (by omega)
  have e10 : IntKind.i64.wrap ((p.tx - p.fx) * (p.tx - p.fx) + (p.ty - p.fy) * (p.ty - p.fy)) = dA p.fx p.fy p.tx p.ty := wr_eq (by omega) (by omega)
  try simp only [r29_0, r29_1, r29_2, r29_3, c29, F29, XK_ureg, e1, e2, e3, e4, e5, e6, e7, e8, e9, e10, md, alongV, go_sem, Int.reduceTMod, Int.reduceTDiv, Int.reduceDiv, Int.reduceMod, Int.reduceAdd, Int.reduceSub, Int.reduceMul, Int.reduceNeg, Int.reducePow, Int.reduceEq, ↓reduceIte, Nat.reduceEqDiff, Nat.reduceAdd, Nat.reduceMul, Nat.reduceLeDiff, Nat.reduceSub, Nat.reduceLT, Int.reduceToNat, Int.reduceLT, Int.reduceLE, reduceCtorEq]
  repeat' ((first | refine FK_split (fun h_ => ?_) (fun h_ => ?_) | refine GK_split (fun h_ => ?_) (fun h_ => ?_) | refine ite_both (fun h_ => ?_) (fun h_ => ?_)) <;> (try simp only [decide_eq_true_eq, decide_eq_false_iff_not, Bool.not_true, Bool.not_false, Bool.not_eq_true', Bool.not_eq_false', Bool.not_eq_eq_eq_not, Decidable.not_not] at h_) <;> (try simp only [r29_0, r29_1, r29_2, r29_3, c29, F29, XK_ureg, e1, e2, e3, e4, e5, e6, e7, e8, e9, e10, md, alongV, h_, go_sem, Int.reduceTMod, Int.reduceTDiv, Int.reduceDiv, Int.reduceMod, Int.reduceAdd, Int.reduceSub, Int.reduceMul, Int.reduceNeg, Int.reducePow, Int.reduceEq, ↓reduceIte, Nat.reduceEqDiff, Nat.reduceAdd, Nat.reduceMul, Nat.reduceLeDiff, Nat.reduceSub, Nat.reduceLT, Int.reduceToNat, Int.reduceLT, Int.reduceLE, reduceCtorEq]))

/- Places of shades walked: the reference's; from a point outward. Conditions: those that each theorem names. -/
open Go Go.Proofs
set_option linter.unusedSimpArgs false
set_option linter.unusedVariables false

/-- From a point outward. -/
noncomputable def roundV (fx fy tx ty x y : Int) : Int := isq ((x - fx) * (x - fx) + (y - fy) * (y - fy)) * 65536 / isq (dA fx fy tx ty)
theorem dist_bd {fx fy x y : Int} (hf : farB fx fy = false) (hq : farB x y = false) : (inP ⟨fx, fy⟩ = true ∧ inP ⟨x, y⟩ = true ∧ longB (x - fx) (y - fy) = false) ∧ 0 ≤ isq ((x - fx) * (x - fx) + (y - fy) * (y - fy)) ∧ isq ((x - fx) * (x - fx) + (y - fy) * (y - fy)) ≤ 67108864 := by
  rw [far_iff] at hf hq
  obtain ⟨c1, c2, c3, c4⟩ := sq_le (z := x - fx) (by omega) (by omega)
  obtain ⟨g1, g2, g3, g4⟩ := sq_le (z := y - fy) (by omega) (by omega)
  refine ⟨⟨inP_iff.2 (by omega), inP_iff.2 (by omega), long_iff.2 (by omega)⟩, (isq_spec (by omega)).1, isq_le (by omega) (by decide) (by omega)⟩
theorem all_pos {fx fy tx ty : Int} (h : Near fx fy tx ty) : 1 ≤ isq (dA fx fy tx ty) := by
  obtain ⟨d0, d1⟩ := dA_bd h
  obtain ⟨s1, s2, s3⟩ := isq_spec (n := dA fx fy tx ty) (by omega)
  rcases Int.lt_or_le (isq (dA fx fy tx ty)) 1 with h | h
  · have e : isq (dA fx fy tx ty) = 0 := by omega
    rw [e] at s3
    omega
  · exact h
theorem v_round (p : Pai) (x y : Int) (h : Near p.fx p.fy p.tx p.ty) (hq : farB x y = false) (m : Mem) (n : Nat) :
    callF TA 30 [.agg p.cs, .agg [I x, I y]] m n = some (RI (roundV p.fx p.fy p.tx p.ty x y)) := by
  refine callF_of (Fn_ofK (fn := F30) rfl (by simp [F30]) ?_)
  obtain ⟨⟨p1, p2, p3⟩, p4, p5⟩ := dist_bd h.f hq
  obtain ⟨⟨q1, q2, q3⟩, q4, q5⟩ := dist_bd h.f h.t
  have q6 := all_pos h
  have v1 := v_Length p.fx p.fy p.tx p.ty (fun _ => none) 0
  rw [if_pos (by rw [q1, q2]; rfl), if_neg (by rw [q3]; decide)] at v1
  have v2 := v_Length p.fx p.fy x y (fun _ => none) 0
  rw [if_pos (by rw [p1, p2]; rfl), if_neg (by rw [p3]; decide)] at v2
  unfold roundV
  rw [show dA p.fx p.fy p.tx p.ty = (p.tx - p.fx) * (p.tx - p.fx) + (p.ty - p.fy) * (p.ty - p.fy) from rfl] at q6 ⊢
  generalize isq ((p.tx - p.fx) * (p.tx - p.fx) + (p.ty - p.fy) * (p.ty - p.fy)) = A at *
  generalize isq ((x - p.fx) * (x - p.fx) + (y - p.fy) * (y - p.fy)) = B at *
  have w1 : IntKind.i64.wrap (B * 65536) = B * 65536 := wr_eq (by omega) (by omega)
  have z : (A = 0) = False := eq_false (by omega)
  have w2 : (B * 65536).tdiv A = B * 65536 / A := Int.tdiv_eq_ediv_of_nonneg (by omega)
  have k1 := Int.ediv_le_self A (show 0 ≤ B * 65536 by omega)
  have k2 := Int.ediv_nonneg (show 0 ≤ B * 65536 by omega) (show 0 ≤ A by omega)
  have w3 : IntKind.i64.wrap (B * 65536 / A) = B * 65536 / A := wr_eq (by omega) (by omega)
  try simp only [r30_0, r30_1, r30_2, r30_3, c30, F30, v1, v2, w1, w2, w3, z, go_sem, Int.reduceTMod, Int.reduceTDiv, Int.reduceDiv, Int.reduceMod, Int.reduceAdd, Int.reduceSub, Int.reduceMul, Int.reduceNeg, Int.reducePow, Int.reduceEq, ↓reduceIte, Nat.reduceEqDiff, Nat.reduceAdd, Nat.reduceMul, Nat.reduceLeDiff, Nat.reduceSub, Nat.reduceLT, Int.reduceToNat, Int.reduceLT, Int.reduceLE, reduceCtorEq]
  repeat' ((first | refine FK_split (fun h_ => ?_) (fun h_ => ?_) | refine GK_split (fun h_ => ?_) (fun h_ => ?_) | refine ite_both (fun h_ => ?_) (fun h_ => ?_)) <;> (try simp only [decide_eq_true_eq, decide_eq_false_iff_not, Bool.not_true, Bool.not_false, Bool.not_eq_true', Bool.not_eq_false', Bool.not_eq_eq_eq_not, Decidable.not_not] at h_) <;> (try simp only [r30_0, r30_1, r30_2, r30_3, c30, F30, v1, v2, w1, w2, w3, z, h_, go_sem, Int.reduceTMod, Int.reduceTDiv, Int.reduceDiv, Int.reduceMod, Int.reduceAdd, Int.reduceSub, Int.reduceMul, Int.reduceNeg, Int.reducePow, Int.reduceEq, ↓reduceIte, Nat.reduceEqDiff, Nat.reduceAdd, Nat.reduceMul, Nat.reduceLeDiff, Nat.reduceSub, Nat.reduceLT, Int.reduceToNat, Int.reduceLT, Int.reduceLE, reduceCtorEq]))

/- Colours mixed, walked. Conditions: those that each theorem names. -/
open Go Go.Proofs
set_option linter.unusedSimpArgs false
set_option linter.unusedVariables false

structure Co where
  c0 : Int
  c1 : Int
  c2 : Int
  c3 : Int
def Co.by (c : Co) : Prop := (byteB c.c0 ∧ byteB c.c1) ∧ byteB c.c2 ∧ byteB c.c3
abbrev Co.u (c : Co) : Reg := .agg [U8 c.c0, U8 c.c1, U8 c.c2, U8 c.c3]
abbrev Co.i (c : Co) : Reg := .agg [I c.c0, I c.c1, I c.c2, I c.c3]
def Stp.co (s : Stp) : Co := ⟨s.c0, s.c1, s.c2, s.c3⟩
def mxV (c d t : Int) : Int := (c * (65536 - t) + d * t + 32768) / 65536
def mixC (a b : Co) (t : Int) : Co := ⟨mxV a.c0 b.c0 t, mxV a.c1 b.c1 t, mxV a.c2 b.c2 t, mxV a.c3 b.c3 t⟩
theorem mx_bd {c d t : Int} (hc : byteB c) (hd : byteB d) (h0 : 0 ≤ t) (h1 : t ≤ 65536) : (0 ≤ c * (65536 - t) ∧ c * (65536 - t) ≤ 16711680) ∧ (0 ≤ d * t ∧ d * t ≤ 16711680) ∧ c * (65536 - t) + d * t ≤ 16711680 ∧ byteB (mxV c d t) := by
  obtain ⟨hc0, hc1⟩ := hc
  obtain ⟨hd0, hd1⟩ := hd
  have a1 := Int.mul_nonneg hc0 (show 0 ≤ 65536 - t by omega)
  have a2 := Int.mul_nonneg hd0 h0
  have a3 := Int.mul_le_mul_of_nonneg_right hc1 (show 0 ≤ 65536 - t by omega)
  have a4 := Int.mul_le_mul_of_nonneg_right hd1 h0
  unfold byteB mxV
  omega
theorem u8wB {z : Int} (h : byteB z) : IntKind.u8.wrap z = z := by
  obtain ⟨h0, h1⟩ := h
  simp [IntKind.wrap, IntKind.bits, IntKind.signed]
  omega
theorem mx_walk {c d t : Int} (hc : byteB c) (hd : byteB d) (h0 : 0 ≤ t) (h1 : t ≤ 65536) : IntKind.i64.wrap c = c ∧ IntKind.i64.wrap d = d ∧ IntKind.i64.wrap (c * (65536 - t)) = c * (65536 - t) ∧ IntKind.i64.wrap (d * t) = d * t ∧ IntKind.i64.wrap (c * (65536 - t) + d * t) = c * (65536 - t) + d * t ∧
    IntKind.i64.wrap (c * (65536 - t) + d * t + 32768) = c * (65536 - t) + d * t + 32768 ∧ (c * (65536 - t) + d * t + 32768).tdiv 65536 = mxV c d t ∧ IntKind.i64.wrap (mxV c d t) = mxV c d t ∧ IntKind.u8.wrap (mxV c d t) = mxV c d t := by
  obtain ⟨⟨a1, a2⟩, ⟨a3, a4⟩, a5, a6⟩ := mx_bd hc hd h0 h1
  have a7 := a6
  unfold byteB at hc hd a6
  exact ⟨wr_eq (by omega) (by omega), wr_eq (by omega) (by omega), wr_eq (by omega) (by omega), wr_eq (by omega) (by omega), wr_eq (by omega) (by omega), wr_eq (by omega) (by omega), Int.tdiv_eq_ediv_of_nonneg (by omega), wr_eq (by omega) (by omega), u8wB a7⟩
theorem v_Mix (a b : Co) (t : Int) (ha : a.by) (hb : b.by) (h0 : 0 ≤ t) (h1 : t ≤ 65536) (m : Mem) (n : Nat) : callF TA 42 [a.u, b.u, RI t] m n = some (mixC a b t).u := by
  refine callF_of (Fn_ofK (fn := F42) rfl (by simp [F42]) ?_)
  obtain ⟨a0, a1, a2, a3⟩ := a
  obtain ⟨b0, b1, b2, b3⟩ := b
  obtain ⟨p1, p2, p3, p4, p5, p6, p7, p8, p9⟩ := mx_walk ha.1.1 hb.1.1 h0 h1
  obtain ⟨q1, q2, q3, q4, q5, q6, q7, q8, q9⟩ := mx_walk ha.1.2 hb.1.2 h0 h1
  obtain ⟨r1, r2, r3, r4, r5, r6, r7, r8, r9⟩ := mx_walk ha.2.1 hb.2.1 h0 h1
  obtain ⟨s1, s2, s3, s4, s5, s6, s7, s8, s9⟩ := mx_walk ha.2.2 hb.2.2 h0 h1
  simp only at p1 p2 p3 p4 p5 p6 p7 p8 p9 q1 q2 q3 q4 q5 q6 q7 q8 q9 r1 r2 r3 r4 r5 r6 r7 r8 r9 s1 s2 s3 s4 s5 s6 s7 s8 s9
  have e : mnI (mxI t 0) 65536 = t := by unfold mnI mxI; split <;> split <;> omega
  have w : IntKind.i64.wrap (65536 - t) = 65536 - t := wr_eq (by omega) (by omega)
  try simp only [r42_0, r42_1, r42_2, r42_3, r42_4, r42_5, r42_6, r42_7, r42_8, c42, F42, l42_0, XK_loop, maxI_two, minI_two, e, w, p1, p2, p3, p4, p5, p6, p7, p8, p9, q1, q2, q3, q4, q5, q6, q7, q8, q9, r1, r2, r3, r4, r5, r6, r7, r8, r9, s1, s2, s3, s4, s5, s6, s7, s8, s9, mixC, go_sem, Int.reduceTMod, Int.reduceTDiv, Int.reduceDiv, Int.reduceMod, Int.reduceAdd, Int.reduceSub, Int.reduceMul, Int.reduceNeg, Int.reducePow, Int.reduceEq, ↓reduceIte, Nat.reduceEqDiff, Nat.reduceAdd, Nat.reduceMul, Nat.reduceLeDiff, Nat.reduceSub, Nat.reduceLT, Int.reduceToNat, Int.reduceLT, Int.reduceLE, reduceCtorEq]
  repeat' ((first | refine FK_split (fun h_ => ?_) (fun h_ => ?_) | refine GK_split (fun h_ => ?_) (fun h_ => ?_) | refine ite_both (fun h_ => ?_) (fun h_ => ?_)) <;> (try simp only [decide_eq_true_eq, decide_eq_false_iff_not, Bool.not_true, Bool.not_false, Bool.not_eq_true', Bool.not_eq_false', Bool.not_eq_eq_eq_not, Decidable.not_not] at h_) <;> (try simp only [r42_0, r42_1, r42_2, r42_3, r42_4, r42_5, r42_6, r42_7, r42_8, c42, F42, l42_0, XK_loop, maxI_two, minI_two, e, w, p1, p2, p3, p4, p5, p6, p7, p8, p9, q1, q2, q3, q4, q5, q6, q7, q8, q9, r1, r2, r3, r4, r5, r6, r7, r8, r9, s1, s2, s3, s4, s5, s6, s7, s8, s9, mixC, h_, go_sem, Int.reduceTMod, Int.reduceTDiv, Int.reduceDiv, Int.reduceMod, Int.reduceAdd, Int.reduceSub, Int.reduceMul, Int.reduceNeg, Int.reducePow, Int.reduceEq, ↓reduceIte, Nat.reduceEqDiff, Nat.reduceAdd, Nat.reduceMul, Nat.reduceLeDiff, Nat.reduceSub, Nat.reduceLT, Int.reduceToNat, Int.reduceLT, Int.reduceLE, reduceCtorEq]))

/- Shades walked. Conditions: those that each theorem names. -/
open Go Go.Proofs
set_option linter.unusedSimpArgs false
set_option linter.unusedVariables false

/-- What stops that are right hold to. -/
structure StopsR (l : List Stp) : Prop where
  pos : 0 < l.length
  len : l.length ≤ 16
  ok : ∀ (i : Nat) (s : Stp), l[i]? = some s → 0 ≤ s.a ∧ s.a ≤ 65536 ∧ crB s.c0 s.c1 s.c2 s.c3 = true
  up : ∀ (i : Nat) (s t : Stp), l[i]? = some s → l[i + 1]? = some t → s.a ≤ t.a
theorem stTo_at {l : List Stp} {i : Nat} {s : Stp} (hs : l[i]? = some s) : ∀ k, i < k → stTo l k = true → stOk (if i = 0 then none else l[i - 1]?) s = true := by
  intro k
  induction k with
  | zero => intro h; omega
  | succ k ih =>
    intro h1 h2
    simp only [stTo, Bool.and_eq_true] at h2
    by_cases e : i = k
    · subst e
      have h3 := h2.2
      rw [hs] at h3
      exact h3
    · exact ih (by omega) h2.1
theorem stopsR {l : List Stp} (h : stopsB l = true) : StopsR l := by
  simp only [stopsB, lenB, Bool.and_eq_true, decide_eq_true_eq] at h
  refine ⟨by omega, by omega, fun i s hs => ?_, fun i s t hs ht => ?_⟩
  · have hi : i < l.length := (List.getElem?_eq_some_iff.1 hs).1
    have := stTo_at hs _ hi h.2
    simp only [stOk, Bool.and_eq_true, decide_eq_true_eq] at this
    exact ⟨this.1, this.2.1, this.2.2.1⟩
  · have hi : i + 1 < l.length := (List.getElem?_eq_some_iff.1 ht).1
    have := stTo_at ht _ hi h.2
    rw [if_neg (by omega), Nat.add_sub_cancel, hs] at this
    simp only [stOk, Bool.and_eq_true, decide_eq_true_eq] at this
    exact this.2.2.2
theorem StopsR.le {l : List Stp} (h : StopsR l) : ∀ (k i : Nat) (s t : Stp), l[i]? = some s → l[i + k]? = some t → s.a ≤ t.a := by
  intro k
  induction k with
  | zero => intro i s t h1 h2; rw [Nat.add_zero, h1] at h2; cases h2; exact Int.le_refl _
  | succ k ih =>
    intro i s t h1 h2
    have hi : i + (k + 1) < l.length := (List.getElem?_eq_some_iff.1 h2).1
    obtain ⟨u, hu⟩ : ∃ u, l[i + k]? = some u := ⟨l[i + k], List.getElem?_eq_getElem (by omega)⟩
    exact Int.le_trans (ih i s u h1 hu) (h.up (i + k) u t hu h2)
/-- The colour of a shade at a place. -/
def IsShade (l : List Stp) (t : Int) (C : Co) : Prop :=
  (∃ s, l[0]? = some s ∧ t ≤ s.a ∧ C = s.co) ∨
  (∃ (i : Nat) (p s : Stp), l[i]? = some p ∧ l[i + 1]? = some s ∧ (∀ (j : Nat) (u : Stp), j ≤ i → l[j]? = some u → u.a ≤ t) ∧ (∀ u, l[0]? = some u → u.a < t) ∧ t < s.a ∧ C = mixC p.co s.co ((t - p.a) * 65536 / (s.a - p.a))) ∨
  (∃ s, l[l.length - 1]? = some s ∧ (∀ (j : Nat) (u : Stp), l[j]? = some u → u.a ≤ t) ∧ (∀ u, l[0]? = some u → u.a < t) ∧ C = s.co)
theorem IsShade.one {l : List Stp} {t : Int} {C D : Co} (h1 : IsShade l t C) (h2 : IsShade l t D) : C = D := by
  rcases h1 with ⟨s, a1, a2, rfl⟩ | ⟨i, p, s, a1, a2, a3, a4, a5, rfl⟩ | ⟨s, a1, a2, a3, rfl⟩ <;> rcases h2 with ⟨s', b1, b2, rfl⟩ | ⟨i', p', s', b1, b2, b3, b4, b5, rfl⟩ | ⟨s', b1, b2, b3, rfl⟩
  · rw [a1] at b1; cases b1; rfl
  · have := b4 s a1; omega
  · have := b3 s a1; omega
  · have := a4 s' b1; omega
  · have e : i = i' := by
      rcases Nat.lt_trichotomy i i' with h | h | h
      · have := b3 (i + 1) s h a2; omega
      · exact h
      · have := a3 (i' + 1) s' h b2; omega
    subst e
    rw [a1] at b1
    rw [a2] at b2
    cases b1
    cases b2
    rfl
  · have := b2 _ _ a2; omega
  · have := a3 s' b1; omega
  · have := a2 _ _ b2; omega
  · rw [a1] at b1; cases b1; rfl
theorem v_S1 (s : Stp) (t : Int) (b : Nat) {m : Mem} {n : Nat} {o : Bool} (hb : m b = some ⟨[I t], o⟩) (hbn : b < n) : callF TA 41 [.agg s.cs, .one (.ptr b 0)] m n = some (RB (decide (t < s.a))) := by
  refine callF_of (Fn_ofK (fn := F41) rfl (by simp [F41]) ?_)
  have n1 := na_0 hbn
  try simp only [r41_0, r41_1, c41, F41, hb, n1, go_sem, Int.reduceTMod, Int.reduceTDiv, Int.reduceDiv, Int.reduceMod, Int.reduceAdd, Int.reduceSub, Int.reduceMul, Int.reduceNeg, Int.reducePow, Int.reduceEq, ↓reduceIte, Nat.reduceEqDiff, Nat.reduceAdd, Nat.reduceMul, Nat.reduceLeDiff, Nat.reduceSub, Nat.reduceLT, Int.reduceToNat, Int.reduceLT, Int.reduceLE, reduceCtorEq]
  repeat' ((first | refine FK_split (fun h_ => ?_) (fun h_ => ?_) | refine GK_split (fun h_ => ?_) (fun h_ => ?_) | refine ite_both (fun h_ => ?_) (fun h_ => ?_)) <;> (try simp only [decide_eq_true_eq, decide_eq_false_iff_not, Bool.not_true, Bool.not_false, Bool.not_eq_true', Bool.not_eq_false', Bool.not_eq_eq_eq_not, Decidable.not_not] at h_) <;> (try simp only [r41_0, r41_1, c41, F41, hb, n1, h_, go_sem, Int.reduceTMod, Int.reduceTDiv, Int.reduceDiv, Int.reduceMod, Int.reduceAdd, Int.reduceSub, Int.reduceMul, Int.reduceNeg, Int.reducePow, Int.reduceEq, ↓reduceIte, Nat.reduceEqDiff, Nat.reduceAdd, Nat.reduceMul, Nat.reduceLeDiff, Nat.reduceSub, Nat.reduceLT, Int.reduceToNat, Int.reduceLT, Int.reduceLE, reduceCtorEq]))
theorem w_IndexS {r : Reg} {l : List Stp} {t : Int} {b : Nat} {m : Mem} {n : Nat} {o : Bool} (hr : RSt m n r l) (hl : l.length < 4294967296) (hb : m b = some ⟨[I t], o⟩) (hbn : b < n) :
    Fn TA 40 [r, .one (.clo 41 [.ptr b 0])] m n (fun r' _ _ => ∃ k : Int, r' = RI k ∧ ((k = -1 ∧ ∀ (j : Nat) (u : Stp), l[j]? = some u → u.a ≤ t) ∨ (∃ (i : Nat) (s : Stp), k = i ∧ l[i]? = some s ∧ t < s.a ∧ ∀ (j : Nat) (u : Stp), j < i → l[j]? = some u → u.a ≤ t))) := by
  refine Fn_ofK (fn := F40) rfl (by simp [F40]) ?_
  have hlen := hr.len
  try simp only [r40_0, r40_1, r40_2, r40_3, r40_4, r40_5, r40_6, r40_7, c40, F40, hlen, go_sem, Int.reduceTMod, Int.reduceTDiv, Int.reduceDiv, Int.reduceMod, Int.reduceAdd, Int.reduceSub, Int.reduceMul, Int.reduceNeg, Int.reducePow, Int.reduceEq, ↓reduceIte, Nat.reduceEqDiff, Nat.reduceAdd, Nat.reduceMul, Nat.reduceLeDiff, Nat.reduceSub, Nat.reduceLT, Int.reduceToNat, Int.reduceLT, Int.reduceLE, reduceCtorEq]
  repeat' ((first | refine FK_split (fun h_ => ?_) (fun h_ => ?_) | refine GK_split (fun h_ => ?_) (fun h_ => ?_) | refine ite_both (fun h_ => ?_) (fun h_ => ?_)) <;> (try simp only [decide_eq_true_eq, decide_eq_false_iff_not, Bool.not_true, Bool.not_false, Bool.not_eq_true', Bool.not_eq_false', Bool.not_eq_eq_eq_not, Decidable.not_not] at h_) <;> (try simp only [r40_0, r40_1, r40_2, r40_3, r40_4, r40_5, r40_6, r40_7, c40, F40, hlen, h_, go_sem, Int.reduceTMod, Int.reduceTDiv, Int.reduceDiv, Int.reduceMod, Int.reduceAdd, Int.reduceSub, Int.reduceMul, Int.reduceNeg, Int.reducePow, Int.reduceEq, ↓reduceIte, Nat.reduceEqDiff, Nat.reduceAdd, Nat.reduceMul, Nat.reduceLeDiff, Nat.reduceSub, Nat.reduceLT, Int.reduceToNat, Int.reduceLT, Int.reduceLE, reduceCtorEq]))
  refine XK_iter (inv := fun i s => s.e 8 = RI i ∧ s.e 7 = RI l.length ∧ s.e 0 = r ∧ s.e 1 = .one (.clo 41 [.ptr b 0]) ∧ s.m = m ∧ s.n = n ∧ ∀ (j : Nat) (u : Stp), j < i → l[j]? = some u → u.a ≤ t) l.length
    (fun L _ => ⟨fun i hi s hs next => ?_, fun s hs => ?_⟩) 0 (by omega) _ ⟨?_, ?_, ?_, ?_, ?_, ?_, ?_⟩
  · obtain ⟨e, M, N⟩ := s
    obtain ⟨q8, q7, q0, q1, qm, qn, qa⟩ := hs
    simp only at q8 q7 q0 q1 qm qn qa
    subst qm
    subst qn
    have hp : l[i]? = some l[i] := List.getElem?_eq_getElem hi
    obtain ⟨id, off, cap, hr1, hid, hrd⟩ := hr.at cs5 hp
    have vS := v_S1 l[i] t b (m := frz M) (n := N) (o := false) (by rw [frz_at, hb]; rfl) hbn
    generalize l[i] = p at *
    have c2 : ((i : Int) < (l.length : Int)) = True := eq_true (by omega)
    have c3 : (0 ≤ (i : Int)) = True := eq_true (by omega)
    have c7 : IntKind.i64.wrap ((i : Int) + 1) = ((i + 1 : Nat) : Int) := wr_nat (by omega)
    subst hr1
    by_cases hlt : t < p.a
    · skip
      try simp only [r40_0, r40_1, r40_2, r40_3, r40_4, r40_5, r40_6, r40_7, c40, F40, l40_0, q8, q7, q0, q1, c2, c3, c7, hrd, vS, hlt, Int.toNat_natCast, go_sem, Int.reduceTMod, Int.reduceTDiv, Int.reduceDiv, Int.reduceMod, Int.reduceAdd, Int.reduceSub, Int.reduceMul, Int.reduceNeg, Int.reducePow, Int.reduceEq, ↓reduceIte, Nat.reduceEqDiff, Nat.reduceAdd, Nat.reduceMul, Nat.reduceLeDiff, Nat.reduceSub, Nat.reduceLT, Int.reduceToNat, Int.reduceLT, Int.reduceLE, reduceCtorEq]
      repeat' ((first | refine FK_split (fun h_ => ?_) (fun h_ => ?_) | refine GK_split (fun h_ => ?_) (fun h_ => ?_) | refine ite_both (fun h_ => ?_) (fun h_ => ?_)) <;> (try simp only [decide_eq_true_eq, decide_eq_false_iff_not, Bool.not_true, Bool.not_false, Bool.not_eq_true', Bool.not_eq_false', Bool.not_eq_eq_eq_not, Decidable.not_not] at h_) <;> (try simp only [r40_0, r40_1, r40_2, r40_3, r40_4, r40_5, r40_6, r40_7, c40, F40, l40_0, q8, q7, q0, q1, c2, c3, c7, hrd, vS, hlt, Int.toNat_natCast, h_, go_sem, Int.reduceTMod, Int.reduceTDiv, Int.reduceDiv, Int.reduceMod, Int.reduceAdd, Int.reduceSub, Int.reduceMul, Int.reduceNeg, Int.reducePow, Int.reduceEq, ↓reduceIte, Nat.reduceEqDiff, Nat.reduceAdd, Nat.reduceMul, Nat.reduceLeDiff, Nat.reduceSub, Nat.reduceLT, Int.reduceToNat, Int.reduceLT, Int.reduceLE, reduceCtorEq]))
      exact ⟨i, rfl, Or.inr ⟨i, p, rfl, hp, hlt, qa⟩⟩
    · skip
      try simp only [r40_0, r40_1, r40_2, r40_3, r40_4, r40_5, r40_6, r40_7, c40, F40, l40_0, q8, q7, q0, q1, c2, c3, c7, hrd, vS, hlt, Int.toNat_natCast, go_sem, Int.reduceTMod, Int.reduceTDiv, Int.reduceDiv, Int.reduceMod, Int.reduceAdd, Int.reduceSub, Int.reduceMul, Int.reduceNeg, Int.reducePow, Int.reduceEq, ↓reduceIte, Nat.reduceEqDiff, Nat.reduceAdd, Nat.reduceMul, Nat.reduceLeDiff, Nat.reduceSub, Nat.reduceLT, Int.reduceToNat, Int.reduceLT, Int.reduceLE, reduceCtorEq]
      repeat' ((first | refine FK_split (fun h_ => ?_) (fun h_ => ?_) | refine GK_split (fun h_ => ?_) (fun h_ => ?_) | refine ite_both (fun h_ => ?_) (fun h_ => ?_)) <;> (try simp only [decide_eq_true_eq, decide_eq_false_iff_not, Bool.not_true, Bool.not_false, Bool.not_eq_true', Bool.not_eq_false', Bool.not_eq_eq_eq_not, Decidable.not_not] at h_) <;> (try simp only [r40_0, r40_1, r40_2, r40_3, r40_4, r40_5, r40_6, r40_7, c40, F40, l40_0, q8, q7, q0, q1, c2, c3, c7, hrd, vS, hlt, Int.toNat_natCast, h_, go_sem, Int.reduceTMod, Int.reduceTDiv, Int.reduceDiv, Int.reduceMod, Int.reduceAdd, Int.reduceSub, Int.reduceMul, Int.reduceNeg, Int.reducePow, Int.reduceEq, ↓reduceIte, Nat.reduceEqDiff, Nat.reduceAdd, Nat.reduceMul, Nat.reduceLeDiff, Nat.reduceSub, Nat.reduceLT, Int.reduceToNat, Int.reduceLT, Int.reduceLE, reduceCtorEq]))
      refine next _ ⟨?_, ?_, ?_, ?_, ?_, ?_, ?_⟩
      · simp only [go_sem, Int.reduceTMod, Int.reduceTDiv, Int.reduceDiv, Int.reduceMod, Int.reduceAdd, Int.reduceSub, Int.reduceMul, Int.reduceNeg, Int.reducePow, Int.reduceEq, ↓reduceIte, Nat.reduceEqDiff, Nat.reduceAdd, Nat.reduceMul, Nat.reduceLeDiff, Nat.reduceSub, Nat.reduceLT, Int.reduceToNat, Int.reduceLT, Int.reduceLE, reduceCtorEq]
      · simp only [q7, go_sem, Int.reduceTMod, Int.reduceTDiv, Int.reduceDiv, Int.reduceMod, Int.reduceAdd, Int.reduceSub, Int.reduceMul, Int.reduceNeg, Int.reducePow, Int.reduceEq, ↓reduceIte, Nat.reduceEqDiff, Nat.reduceAdd, Nat.reduceMul, Nat.reduceLeDiff, Nat.reduceSub, Nat.reduceLT, Int.reduceToNat, Int.reduceLT, Int.reduceLE, reduceCtorEq]
      · simp only [q0, go_sem, Int.reduceTMod, Int.reduceTDiv, Int.reduceDiv, Int.reduceMod, Int.reduceAdd, Int.reduceSub, Int.reduceMul, Int.reduceNeg, Int.reducePow, Int.reduceEq, ↓reduceIte, Nat.reduceEqDiff, Nat.reduceAdd, Nat.reduceMul, Nat.reduceLeDiff, Nat.reduceSub, Nat.reduceLT, Int.reduceToNat, Int.reduceLT, Int.reduceLE, reduceCtorEq]
      · simp only [q1, go_sem, Int.reduceTMod, Int.reduceTDiv, Int.reduceDiv, Int.reduceMod, Int.reduceAdd, Int.reduceSub, Int.reduceMul, Int.reduceNeg, Int.reducePow, Int.reduceEq, ↓reduceIte, Nat.reduceEqDiff, Nat.reduceAdd, Nat.reduceMul, Nat.reduceLeDiff, Nat.reduceSub, Nat.reduceLT, Int.reduceToNat, Int.reduceLT, Int.reduceLE, reduceCtorEq]
      · rfl
      · rfl
      · intro j u hj hu
        by_cases e : j = i
        · subst e; rw [hp] at hu; cases hu; omega
        · exact qa j u (by omega) hu
  · obtain ⟨e, M, N⟩ := s
    obtain ⟨q8, q7, q0, q1, qm, qn, qa⟩ := hs
    simp only at q8 q7 q0 q1 qm qn qa
    have c2 : ((l.length : Int) < (l.length : Int)) = False := eq_false (by omega)
    try simp only [r40_0, r40_1, r40_2, r40_3, r40_4, r40_5, r40_6, r40_7, c40, F40, l40_0, q8, q7, c2, go_sem, Int.reduceTMod, Int.reduceTDiv, Int.reduceDiv, Int.reduceMod, Int.reduceAdd, Int.reduceSub, Int.reduceMul, Int.reduceNeg, Int.reducePow, Int.reduceEq, ↓reduceIte, Nat.reduceEqDiff, Nat.reduceAdd, Nat.reduceMul, Nat.reduceLeDiff, Nat.reduceSub, Nat.reduceLT, Int.reduceToNat, Int.reduceLT, Int.reduceLE, reduceCtorEq]
    repeat' ((first | refine FK_split (fun h_ => ?_) (fun h_ => ?_) | refine GK_split (fun h_ => ?_) (fun h_ => ?_) | refine ite_both (fun h_ => ?_) (fun h_ => ?_)) <;> (try simp only [decide_eq_true_eq, decide_eq_false_iff_not, Bool.not_true, Bool.not_false, Bool.not_eq_true', Bool.not_eq_false', Bool.not_eq_eq_eq_not, Decidable.not_not] at h_) <;> (try simp only [r40_0, r40_1, r40_2, r40_3, r40_4, r40_5, r40_6, r40_7, c40, F40, l40_0, q8, q7, c2, h_, go_sem, Int.reduceTMod, Int.reduceTDiv, Int.reduceDiv, Int.reduceMod, Int.reduceAdd, Int.reduceSub, Int.reduceMul, Int.reduceNeg, Int.reducePow, Int.reduceEq, ↓reduceIte, Nat.reduceEqDiff, Nat.reduceAdd, Nat.reduceMul, Nat.reduceLeDiff, Nat.reduceSub, Nat.reduceLT, Int.reduceToNat, Int.reduceLT, Int.reduceLE, reduceCtorEq]))
    exact ⟨-1, rfl, Or.inl ⟨rfl, fun j u hu => qa j u (List.getElem?_eq_some_iff.1 hu).1 hu⟩⟩
  · simp only [go_sem, Int.reduceTMod, Int.reduceTDiv, Int.reduceDiv, Int.reduceMod, Int.reduceAdd, Int.reduceSub, Int.reduceMul, Int.reduceNeg, Int.reducePow, Int.reduceEq, ↓reduceIte, Nat.reduceEqDiff, Nat.reduceAdd, Nat.reduceMul, Nat.reduceLeDiff, Nat.reduceSub, Nat.reduceLT, Int.reduceToNat, Int.reduceLT, Int.reduceLE, reduceCtorEq]
  · simp only [go_sem, Int.reduceTMod, Int.reduceTDiv, Int.reduceDiv, Int.reduceMod, Int.reduceAdd, Int.reduceSub, Int.reduceMul, Int.reduceNeg, Int.reducePow, Int.reduceEq, ↓reduceIte, Nat.reduceEqDiff, Nat.reduceAdd, Nat.reduceMul, Nat.reduceLeDiff, Nat.reduceSub, Nat.reduceLT, Int.reduceToNat, Int.reduceLT, Int.reduceLE, reduceCtorEq]
  · simp only [go_sem, Int.reduceTMod, Int.reduceTDiv, Int.reduceDiv, Int.reduceMod, Int.reduceAdd, Int.reduceSub, Int.reduceMul, Int.reduceNeg, Int.reducePow, Int.reduceEq, ↓reduceIte, Nat.reduceEqDiff, Nat.reduceAdd, Nat.reduceMul, Nat.reduceLeDiff, Nat.reduceSub, Nat.reduceLT, Int.reduceToNat, Int.reduceLT, Int.reduceLE, reduceCtorEq]
  · simp only [go_sem, Int.reduceTMod, Int.reduceTDiv, Int.reduceDiv, Int.reduceMod, Int.reduceAdd, Int.reduceSub, Int.reduceMul, Int.reduceNeg, Int.reducePow, Int.reduceEq, ↓reduceIte, Nat.reduceEqDiff, Nat.reduceAdd, Nat.reduceMul, Nat.reduceLeDiff, Nat.reduceSub, Nat.reduceLT, Int.reduceToNat, Int.reduceLT, Int.reduceLE, reduceCtorEq]
  · rfl
  · rfl
  · intro j u hj; omega

end Go.Proofs.Ytffhhgcgnillaaa.Sy
