import Derived.Test.YtkdbnmohpanpfaaMgE
/- Package wide walked: a product divided. Conditions: those that each theorem names. -/
namespace Go.Proofs.Ytkdbnmohpanpfaa.Sy
open Go Go.Proofs
set_option linter.unusedSimpArgs false
set_option linter.unusedVariables false
set_option maxRecDepth 20000
attribute [local go_sem] XK_seq XK_block XK_skip XK_exit XK_ret XK_cond XK_reg XK_dreg XK_ureg KN_seq KN_blk KN_lp KN_chk KN_chku KN_top KN_fin KX_seq KX_lp KX_blk KX_chk KX_top KR_seq KR_blk KR_lp KR_chk KR_top KR_fin FK_true FK_false RK_nil RK_mv RK_pick RK_alloc RK_box RK_build RK_bslice RK_load1 RK_loadA RK_store RK_nilchk RK_bin RK_beq RK_eqv RK_eqnil RK_un RK_conv RK_mkfn RK_mkslice RK_slS RK_slA RK_fadr RK_fld RK_iadrA RK_iadrS RK_idxA RK_istr RK_ext RK_lenC RK_cap RK_app RK_appz RK_pre RK_cpy RK_mn RK_mx RK_len RK_carry RK_clr carryR um0 um1 ThenK_some RK_guard GK_tt GK_ff GK_tf GK_ft GK_none QK_some RK_callQ RK_callZ RK_callT TK_some VK_clo RK_callV
  evalOp evO evOs upd_at unfrz_at putE_some putE_none boolOf_b boolOf_tup Option.map_some evRes pack_one pack_two pack_three pack_none List.getD_cons_zero List.getD_cons_succ getD_nil
  Option.some.injEq exists_eq_left' Reg.cs? fillC setL List.set_cons_zero List.set_cons_succ List.length_cons List.length_nil rd_upd rd_updn rdB wr List.drop_zero List.drop_succ_cons List.take_succ_cons List.take_zero List.getElem?_cons_zero List.getElem?_cons_succ
  ix Int.toNat_zero lenO_sl lenO_nil nadd na_eq na_eq' na_lt na_ee na_ll na_ne na_ne' na_tt
attribute [local go_sem] Reg.flat_one Reg.flat_agg Reg.flat_tup flats_nil flats_cons Cell.flat_sc Cell.flat_ptr List.all_cons List.all_nil disOk safeOk safeR decide_eq_true_eq decide_eq_false_iff_not
  List.map_cons List.map_nil List.cons_append List.nil_append List.append_nil evalOp.capsOf Bool.false_bne Bool.bne_false Bool.true_bne Bool.bne_true bne_self_eq_false beq_self_eq_true Bool.not_not Bool.false_and Bool.and_false Bool.true_or Bool.or_true beq_iff_eq eqCells
  Bool.true_beq Bool.false_beq Bool.not_eq_true' Bool.not_eq_eq_eq_not Bool.not_eq_false' and_false false_and frz_at idOf noId Option.isSome_some Bool.and_eq_true
attribute [local go_sem] wr_eq bV_add bV_sub bV_mul bV_eql bV_neq bV_lss bV_leq bV_gtr bV_geq bV_quo bV_rem bV_shr bV_shl uV_not uV_neg wrapU bits_and bits_or bits_xor IntKind.bits Nat.min_eq_left Nat.min_eq_right Nat.min_self
attribute [local go_sem] bne_iff_ne Int.cast_ofNat_Int Nat.zero_add Nat.add_zero and_self and_true true_and ne_eq not_false_eq_true not_true_eq_false decide_true decide_false Bool.false_eq_true Bool.not_true Bool.not_false Bool.true_and Bool.and_true Bool.or_false Bool.false_or Bool.and_self

theorem v_Div64A {h l y : Int} (hh : 0 ≤ h) (hy : h < y) (hyb : y < 18446744073709551616) (hl0 : 0 ≤ l) (hl1 : l < 18446744073709551616) (m : Mem) (n : Nat) :
    callF TA 57 [RU h, RU l, RU y] m n = some (.tup [RU ((h * 18446744073709551616 + l) / y), RU ((h * 18446744073709551616 + l) % y)]) := by
  by_cases c : h = 0
  · subst c
    rw [Int.zero_mul, Int.zero_add]
    exact v_Div64 l y hl0 hl1 hy m n
  · exact v_Div64W (by omega) hy hyb hl0 hl1 m n
/-- A product, divided, rounded down (d above 0). -/
theorem v_MulDivE (a b d : Int) (ha : -9223372036854775807 ≤ a ∧ a ≤ 9223372036854775807) (hb : -9223372036854775807 ≤ b ∧ b ≤ 9223372036854775807) (hd : 0 < d) (hd2 : d ≤ 4611686018427387904) (h1 : -(4611686018427387904 * d) ≤ a * b) (h2 : a * b ≤ 4611686018427387904 * d) (m : Mem) (n : Nat) :
    ∃ ex : Bool, callF TA 48 [RI a, RI b, RI d] m n = some (.tup [RI (a * b / d), RB ex, RI 0]) ∧ (ex = true ↔ a * b % d = 0) := by
  obtain ⟨A, hA⟩ : ∃ A, A = (if a < 0 then -a else a) := ⟨_, rfl⟩
  obtain ⟨B, hB⟩ : ∃ B, B = (if b < 0 then -b else b) := ⟨_, rfl⟩
  have s1 := v_size a (by omega) (by omega)
  rw [← hA] at s1
  have s2 := v_size b (by omega) (by omega)
  rw [← hB] at s2
  have s3 := v_size d (by omega) (by omega)
  rw [if_neg (by omega)] at s3
  have hA0 : 0 ≤ A ∧ A ≤ 9223372036854775807 := by rw [hA]; split <;> omega
  have hB0 : 0 ≤ B ∧ B ≤ 9223372036854775807 := by rw [hB]; split <;> omega
  have m1 := v_Mul64 A B hA0.1 (by omega) hB0.1 (by omega)
  obtain ⟨P, hP⟩ : ∃ P, P = A * B := ⟨_, rfl⟩
  rw [← hP] at m1
  have hP0 : 0 ≤ P := by rw [hP]; exact Int.mul_nonneg hA0.1 hB0.1
  have hPab : (a * b = P ∧ (decide (a < 0) = decide (b < 0))) ∨ (a * b = -P ∧ (decide (a < 0) = !decide (b < 0))) := by
    rw [hP, hA, hB]
    by_cases ca : a < 0 <;> by_cases cb : b < 0 <;> simp [ca, cb, Int.neg_mul, Int.mul_neg]
  have hPd : P ≤ 4611686018427387904 * d := by
    rcases hPab with ⟨e, _⟩ | ⟨e, _⟩ <;> omega
  have hh : P / 18446744073709551616 < d := by omega
  have dv := v_Div64A (h := P / 18446744073709551616) (l := P % 18446744073709551616) (y := d) (by omega) hh (by omega) (by omega) (by omega)
  rw [show P / 18446744073709551616 * 18446744073709551616 + P % 18446744073709551616 = P by omega] at dv
  have q0 := Int.ediv_nonneg hP0 (Int.le_of_lt hd)
  have q1 : P / d ≤ 4611686018427387904 := by
    have : P / d < 4611686018427387905 := Int.ediv_lt_of_lt_mul hd (by omega)
    omega
  have r0 := Int.emod_nonneg P (Int.ne_of_gt hd)
  have r1 := Int.emod_lt_of_pos P hd
  have eB := Int.mul_ediv_add_emod P d
  have z : (d = 0) = False := eq_false (by omega)
  have z2 : (d ≤ P / 18446744073709551616) = False := eq_false (by omega)
  have z3 : (d < 0) = False := eq_false (by omega)
  have one := v_Of 1 (by decide) (by decide)
  have ints : ∀ x : Int, -4611686018427387905 ≤ x → x ≤ 4611686018427387905 → ∀ m n, callF TA 61 [.agg [I (x / 18446744073709551616), U (x % 18446744073709551616)]] m n = some (.tup [RI x, RB true]) := by
    intro x hx1 hx2 m n
    rw [v_wInt _ _ (by omega) (by omega)]
    have ew : IntKind.i64.wrap (x % 18446744073709551616) = x := by rw [wrapI]; unfold Go.RowKit.wrap64; omega
    rw [ew, if_pos (by omega)]
  have hex : decide (P % d = 0) = true ↔ a * b % d = 0 := by
    rw [decide_eq_true_eq]
    rcases hPab with ⟨e, _⟩ | ⟨e, _⟩ <;> rw [e]
    rw [← Int.dvd_iff_emod_eq_zero, ← Int.dvd_iff_emod_eq_zero, Int.dvd_neg]
  generalize hq : P / d = q at *
  generalize hr : P % d = r at *
  rcases hPab with ⟨hab, c⟩ | ⟨hab, c⟩
  · have e : a * b / d = q := by rw [← hq, hab]
    have it := ints (a * b / d) (by omega) (by omega)
    rw [show a * b / d / 18446744073709551616 = 0 by omega, show a * b / d % 18446744073709551616 = q by omega] at it
    rw [e] at it ⊢
    refine ⟨decide (r = 0), callF_of (Fn_ofK (fn := F48) rfl (by simp [F48]) ?_), hex⟩
    by_cases cb : b < 0
    · have ca : a < 0 := by simpa [cb] using c
      try simp only [r48_0, r48_1, r48_2, r48_3, r48_4, r48_5, r48_6, r48_7, r48_8, r48_9, r48_10, r48_11, r48_12, r48_13, r48_14, r48_15, c48, F48, s1, s2, s3, m1, dv, z, z2, z3, ca, cb, it, go_sem, Int.reduceTMod, Int.reduceTDiv, Int.reduceDiv, Int.reduceMod, Int.reduceAdd, Int.reduceSub, Int.reduceMul, Int.reduceNeg, Int.reducePow, Int.reduceEq, ↓reduceIte, Nat.reduceEqDiff, Nat.reduceAdd, Nat.reduceMul, Nat.reduceLeDiff, Nat.reduceSub, Nat.reduceLT, Int.reduceToNat, Int.reduceLT, Int.reduceLE, reduceCtorEq]
      repeat' ((first | refine FK_split (fun h_ => ?_) (fun h_ => ?_) | refine GK_split (fun h_ => ?_) (fun h_ => ?_) | refine ite_both (fun h_ => ?_) (fun h_ => ?_)) <;> (try simp only [decide_eq_true_eq, decide_eq_false_iff_not, Bool.not_true, Bool.not_false, Bool.not_eq_true', Bool.not_eq_false', Bool.not_eq_eq_eq_not, Decidable.not_not] at h_) <;> (try simp only [r48_0, r48_1, r48_2, r48_3, r48_4, r48_5, r48_6, r48_7, r48_8, r48_9, r48_10, r48_11, r48_12, r48_13, r48_14, r48_15, c48, F48, s1, s2, s3, m1, dv, z, z2, z3, ca, cb, it, h_, go_sem, Int.reduceTMod, Int.reduceTDiv, Int.reduceDiv, Int.reduceMod, Int.reduceAdd, Int.reduceSub, Int.reduceMul, Int.reduceNeg, Int.reducePow, Int.reduceEq, ↓reduceIte, Nat.reduceEqDiff, Nat.reduceAdd, Nat.reduceMul, Nat.reduceLeDiff, Nat.reduceSub, Nat.reduceLT, Int.reduceToNat, Int.reduceLT, Int.reduceLE, reduceCtorEq]))
    · have ca : ¬ a < 0 := by simpa [cb] using c
      try simp only [r48_0, r48_1, r48_2, r48_3, r48_4, r48_5, r48_6, r48_7, r48_8, r48_9, r48_10, r48_11, r48_12, r48_13, r48_14, r48_15, c48, F48, s1, s2, s3, m1, dv, z, z2, z3, ca, cb, it, go_sem, Int.reduceTMod, Int.reduceTDiv, Int.reduceDiv, Int.reduceMod, Int.reduceAdd, Int.reduceSub, Int.reduceMul, Int.reduceNeg, Int.reducePow, Int.reduceEq, ↓reduceIte, Nat.reduceEqDiff, Nat.reduceAdd, Nat.reduceMul, Nat.reduceLeDiff, Nat.reduceSub, Nat.reduceLT, Int.reduceToNat, Int.reduceLT, Int.reduceLE, reduceCtorEq]
      repeat' ((first | refine FK_split (fun h_ => ?_) (fun h_ => ?_) | refine GK_split (fun h_ => ?_) (fun h_ => ?_) | refine ite_both (fun h_ => ?_) (fun h_ => ?_)) <;> (try simp only [decide_eq_true_eq, decide_eq_false_iff_not, Bool.not_true, Bool.not_false, Bool.not_eq_true', Bool.not_eq_false', Bool.not_eq_eq_eq_not, Decidable.not_not] at h_) <;> (try simp only [r48_0, r48_1, r48_2, r48_3, r48_4, r48_5, r48_6, r48_7, r48_8, r48_9, r48_10, r48_11, r48_12, r48_13, r48_14, r48_15, c48, F48, s1, s2, s3, m1, dv, z, z2, z3, ca, cb, it, h_, go_sem, Int.reduceTMod, Int.reduceTDiv, Int.reduceDiv, Int.reduceMod, Int.reduceAdd, Int.reduceSub, Int.reduceMul, Int.reduceNeg, Int.reducePow, Int.reduceEq, ↓reduceIte, Nat.reduceEqDiff, Nat.reduceAdd, Nat.reduceMul, Nat.reduceLeDiff, Nat.reduceSub, Nat.reduceLT, Int.reduceToNat, Int.reduceLT, Int.reduceLE, reduceCtorEq]))
  · by_cases c2 : 0 < r
    · have e : a * b / d = -(q + 1) := by
        have : a * b = (d - r) + d * (-(q + 1)) := by rw [Int.mul_neg, Int.mul_add]; omega
        rw [this, Int.add_mul_ediv_left _ _ (by omega), Int.ediv_eq_zero_of_lt (by omega) (by omega)]
        omega
      have ad := v_wAdd 0 q 0 1 q0 (by omega) (by decide) (by decide)
      have a1 : addH 0 q 0 1 = 0 := by
        unfold addH
        rw [show 0 + 0 + (q + 1) / 18446744073709551616 = 0 by omega]
        rfl
      rw [a1, show (q + 1) % 18446744073709551616 = q + 1 by omega] at ad
      have ng := v_wNeg 0 (q + 1) (by omega) (by omega)
      rw [e]
      have n1 : subH 0 0 0 (q + 1) = -(q + 1) / 18446744073709551616 := by
        unfold subH
        rw [if_pos (by omega)]
        have : IntKind.i64.wrap (0 - 0 - 1) = -1 := rfl
        rw [this]; omega
      have n2 : (0 - (q + 1)) % 18446744073709551616 = -(q + 1) % 18446744073709551616 := by omega
      rw [n1, n2] at ng
      have it := ints (-(q + 1)) (by omega) (by omega)
      refine ⟨decide (r = 0), callF_of (Fn_ofK (fn := F48) rfl (by simp [F48]) ?_), hex⟩
      by_cases cb : b < 0
      · have ca : ¬ a < 0 := by simpa [cb] using c
        try simp only [r48_0, r48_1, r48_2, r48_3, r48_4, r48_5, r48_6, r48_7, r48_8, r48_9, r48_10, r48_11, r48_12, r48_13, r48_14, r48_15, c48, F48, s1, s2, s3, m1, dv, z, z2, z3, ca, cb, c2, one, ad, ng, it, go_sem, Int.reduceTMod, Int.reduceTDiv, Int.reduceDiv, Int.reduceMod, Int.reduceAdd, Int.reduceSub, Int.reduceMul, Int.reduceNeg, Int.reducePow, Int.reduceEq, ↓reduceIte, Nat.reduceEqDiff, Nat.reduceAdd, Nat.reduceMul, Nat.reduceLeDiff, Nat.reduceSub, Nat.reduceLT, Int.reduceToNat, Int.reduceLT, Int.reduceLE, reduceCtorEq]
        repeat' ((first | refine FK_split (fun h_ => ?_) (fun h_ => ?_) | refine GK_split (fun h_ => ?_) (fun h_ => ?_) | refine ite_both (fun h_ => ?_) (fun h_ => ?_)) <;> (try simp only [decide_eq_true_eq, decide_eq_false_iff_not, Bool.not_true, Bool.not_false, Bool.not_eq_true', Bool.not_eq_false', Bool.not_eq_eq_eq_not, Decidable.not_not] at h_) <;> (try simp only [r48_0, r48_1, r48_2, r48_3, r48_4, r48_5, r48_6, r48_7, r48_8, r48_9, r48_10, r48_11, r48_12, r48_13, r48_14, r48_15, c48, F48, s1, s2, s3, m1, dv, z, z2, z3, ca, cb, c2, one, ad, ng, it, h_, go_sem, Int.reduceTMod, Int.reduceTDiv, Int.reduceDiv, Int.reduceMod, Int.reduceAdd, Int.reduceSub, Int.reduceMul, Int.reduceNeg, Int.reducePow, Int.reduceEq, ↓reduceIte, Nat.reduceEqDiff, Nat.reduceAdd, Nat.reduceMul, Nat.reduceLeDiff, Nat.reduceSub, Nat.reduceLT, Int.reduceToNat, Int.reduceLT, Int.reduceLE, reduceCtorEq]))
      · have ca : a < 0 := by simpa [cb] using c
        try simp only [r48_0, r48_1, r48_2, r48_3, r48_4, r48_5, r48_6, r48_7, r48_8, r48_9, r48_10, r48_11, r48_12, r48_13, r48_14, r48_15, c48, F48, s1, s2, s3, m1, dv, z, z2, z3, ca, cb, c2, one, ad, ng, it, go_sem, Int.reduceTMod, Int.reduceTDiv, Int.reduceDiv, Int.reduceMod, Int.reduceAdd, Int.reduceSub, Int.reduceMul, Int.reduceNeg, Int.reducePow, Int.reduceEq, ↓reduceIte, Nat.reduceEqDiff, Nat.reduceAdd, Nat.reduceMul, Nat.reduceLeDiff, Nat.reduceSub, Nat.reduceLT, Int.reduceToNat, Int.reduceLT, Int.reduceLE, reduceCtorEq]
        repeat' ((first | refine FK_split (fun h_ => ?_) (fun h_ => ?_) | refine GK_split (fun h_ => ?_) (fun h_ => ?_) | refine ite_both (fun h_ => ?_) (fun h_ => ?_)) <;> (try simp only [decide_eq_true_eq, decide_eq_false_iff_not, Bool.not_true, Bool.not_false, Bool.not_eq_true', Bool.not_eq_false', Bool.not_eq_eq_eq_not, Decidable.not_not] at h_) <;> (try simp only [r48_0, r48_1, r48_2, r48_3, r48_4, r48_5, r48_6, r48_7, r48_8, r48_9, r48_10, r48_11, r48_12, r48_13, r48_14, r48_15, c48, F48, s1, s2, s3, m1, dv, z, z2, z3, ca, cb, c2, one, ad, ng, it, h_, go_sem, Int.reduceTMod, Int.reduceTDiv, Int.reduceDiv, Int.reduceMod, Int.reduceAdd, Int.reduceSub, Int.reduceMul, Int.reduceNeg, Int.reducePow, Int.reduceEq, ↓reduceIte, Nat.reduceEqDiff, Nat.reduceAdd, Nat.reduceMul, Nat.reduceLeDiff, Nat.reduceSub, Nat.reduceLT, Int.reduceToNat, Int.reduceLT, Int.reduceLE, reduceCtorEq]))
    · have hr0 : r = 0 := by omega
      have e : a * b / d = -q := by
        have : a * b = d * (-q) := by rw [Int.mul_neg]; omega
        rw [this, Int.mul_ediv_cancel_left _ (by omega)]
      have ng := v_wNeg 0 q q0 (by omega)
      rw [e]
      have n1 : subH 0 0 0 q = -q / 18446744073709551616 := by
        unfold subH
        by_cases cq : 0 < q
        · rw [if_pos cq]
          have : IntKind.i64.wrap (0 - 0 - 1) = -1 := rfl
          rw [this]; omega
        · rw [if_neg cq]
          have : IntKind.i64.wrap (0 - 0 - 0) = 0 := rfl
          rw [this]; omega
      have n2 : (0 - q) % 18446744073709551616 = -q % 18446744073709551616 := by omega
      rw [n1, n2] at ng
      have it := ints (-q) (by omega) (by omega)
      refine ⟨decide (r = 0), callF_of (Fn_ofK (fn := F48) rfl (by simp [F48]) ?_), hex⟩
      by_cases cb : b < 0
      · have ca : ¬ a < 0 := by simpa [cb] using c
        try simp only [r48_0, r48_1, r48_2, r48_3, r48_4, r48_5, r48_6, r48_7, r48_8, r48_9, r48_10, r48_11, r48_12, r48_13, r48_14, r48_15, c48, F48, s1, s2, s3, m1, dv, z, z2, z3, ca, cb, c2, one, ng, it, go_sem, Int.reduceTMod, Int.reduceTDiv, Int.reduceDiv, Int.reduceMod, Int.reduceAdd, Int.reduceSub, Int.reduceMul, Int.reduceNeg, Int.reducePow, Int.reduceEq, ↓reduceIte, Nat.reduceEqDiff, Nat.reduceAdd, Nat.reduceMul, Nat.reduceLeDiff, Nat.reduceSub, Nat.reduceLT, Int.reduceToNat, Int.reduceLT, Int.reduceLE, reduceCtorEq]
        repeat' ((first | refine FK_split (fun h_ => ?_) (fun h_ => ?_) | refine GK_split (fun h_ => ?_) (fun h_ => ?_) | refine ite_both (fun h_ => ?_) (fun h_ => ?_)) <;> (try simp only [decide_eq_true_eq, decide_eq_false_iff_not, Bool.not_true, Bool.not_false, Bool.not_eq_true', Bool.not_eq_false', Bool.not_eq_eq_eq_not, Decidable.not_not] at h_) <;> (try simp only [r48_0, r48_1, r48_2, r48_3, r48_4, r48_5, r48_6, r48_7, r48_8, r48_9, r48_10, r48_11, r48_12, r48_13, r48_14, r48_15, c48, F48, s1, s2, s3, m1, dv, z, z2, z3, ca, cb, c2, one, ng, it, h_, go_sem, Int.reduceTMod, Int.reduceTDiv, Int.reduceDiv, Int.reduceMod, Int.reduceAdd, Int.reduceSub, Int.reduceMul, Int.reduceNeg, Int.reducePow, Int.reduceEq, ↓reduceIte, Nat.reduceEqDiff, Nat.reduceAdd, Nat.reduceMul, Nat.reduceLeDiff, Nat.reduceSub, Nat.reduceLT, Int.reduceToNat, Int.reduceLT, Int.reduceLE, reduceCtorEq]))
      · have ca : a < 0 := by simpa [cb] using c
        try simp only [r48_0, r48_1, r48_2, r48_3, r48_4, r48_5, r48_6, r48_7, r48_8, r48_9, r48_10, r48_11, r48_12, r48_13, r48_14, r48_15, c48, F48, s1, s2, s3, m1, dv, z, z2, z3, ca, cb, c2, one, ng, it, go_sem, Int.reduceTMod, Int.reduceTDiv, Int.reduceDiv, Int.reduceMod, Int.reduceAdd, Int.reduceSub, Int.reduceMul, Int.reduceNeg, Int.reducePow, Int.reduceEq, ↓reduceIte, Nat.reduceEqDiff, Nat.reduceAdd, Nat.reduceMul, Nat.reduceLeDiff, Nat.reduceSub, Nat.reduceLT, Int.reduceToNat, Int.reduceLT, Int.reduceLE, reduceCtorEq]
        repeat' ((first | refine FK_split (fun h_ => ?_) (fun h_ => ?_) | refine GK_split (fun h_ => ?_) (fun h_ => ?_) | refine ite_both (fun h_ => ?_) (fun h_ => ?_)) <;> (try simp only [decide_eq_true_eq, decide_eq_false_iff_not, Bool.not_true, Bool.not_false, Bool.not_eq_true', Bool.not_eq_false', Bool.not_eq_eq_eq_not, Decidable.not_not] at h_) <;> (try simp only [r48_0, r48_1, r48_2, r48_3, r48_4, r48_5, r48_6, r48_7, r48_8, r48_9, r48_10, r48_11, r48_12, r48_13, r48_14, r48_15, c48, F48, s1, s2, s3, m1, dv, z, z2, z3, ca, cb, c2, one, ng, it, h_, go_sem, Int.reduceTMod, Int.reduceTDiv, Int.reduceDiv, Int.reduceMod, Int.reduceAdd, Int.reduceSub, Int.reduceMul, Int.reduceNeg, Int.reducePow, Int.reduceEq, ↓reduceIte, Nat.reduceEqDiff, Nat.reduceAdd, Nat.reduceMul, Nat.reduceLeDiff, Nat.reduceSub, Nat.reduceLT, Int.reduceToNat, Int.reduceLT, Int.reduceLE, reduceCtorEq]))
theorem v_MulDivG (a b d : Int) (ha : -9223372036854775807 ≤ a ∧ a ≤ 9223372036854775807) (hb : -9223372036854775807 ≤ b ∧ b ≤ 9223372036854775807) (hd : 0 < d) (hd2 : d ≤ 4611686018427387904) (h1 : -(4611686018427387904 * d) ≤ a * b) (h2 : a * b ≤ 4611686018427387904 * d) (m : Mem) (n : Nat) :
    ∃ ex : Bool, callF TA 48 [RI a, RI b, RI d] m n = some (.tup [RI (a * b / d), RB ex, RI 0]) := by
  obtain ⟨ex, h, _⟩ := v_MulDivE a b d ha hb hd hd2 h1 h2 m n
  exact ⟨ex, h⟩

/- Is a number in room: the reference's walk. Conditions: those that each theorem names. -/
open Go Go.Proofs
set_option linter.unusedSimpArgs false
set_option linter.unusedVariables false

def rm (a : Int) : Bool := decide (-2147483648 ≤ a) && decide (a ≤ 2147483648)
theorem rm_iff {a : Int} : rm a = true ↔ -2147483648 ≤ a ∧ a ≤ 2147483648 := by simp [rm]
theorem v_rIn (a : Int) (m : Mem) (n : Nat) : callF TA 22 [RI a] m n = some (RB (rm a)) := by
  refine callF_of (Fn_ofK (fn := F22) rfl (by simp [F22]) ?_)
  try simp only [r22_0, r22_1, c22, F22, rm, go_sem, Int.reduceTMod, Int.reduceTDiv, Int.reduceDiv, Int.reduceMod, Int.reduceAdd, Int.reduceSub, Int.reduceMul, Int.reduceNeg, Int.reducePow, Int.reduceEq, ↓reduceIte, Nat.reduceEqDiff, Nat.reduceAdd, Nat.reduceMul, Nat.reduceLeDiff, Nat.reduceSub, Nat.reduceLT, Int.reduceToNat, Int.reduceLT, Int.reduceLE, reduceCtorEq]
  repeat' ((first | refine FK_split (fun h_ => ?_) (fun h_ => ?_) | refine GK_split (fun h_ => ?_) (fun h_ => ?_) | refine ite_both (fun h_ => ?_) (fun h_ => ?_)) <;> (try simp only [decide_eq_true_eq, decide_eq_false_iff_not, Bool.not_true, Bool.not_false, Bool.not_eq_true', Bool.not_eq_false', Bool.not_eq_eq_eq_not, Decidable.not_not] at h_) <;> (try simp only [r22_0, r22_1, c22, F22, rm, h_, go_sem, Int.reduceTMod, Int.reduceTDiv, Int.reduceDiv, Int.reduceMod, Int.reduceAdd, Int.reduceSub, Int.reduceMul, Int.reduceNeg, Int.reducePow, Int.reduceEq, ↓reduceIte, Nat.reduceEqDiff, Nat.reduceAdd, Nat.reduceMul, Nat.reduceLeDiff, Nat.reduceSub, Nat.reduceLT, Int.reduceToNat, Int.reduceLT, Int.reduceLE, reduceCtorEq]))


/- Package geom walked: places in room, sides. Conditions: those that each theorem names. -/
open Go Go.Proofs
set_option linter.unusedSimpArgs false
set_option linter.unusedVariables false

/-- Twice the area of three places, with its sign. -/
def cross (ax ay bx b_y cx cy : Int) : Int := (bx - ax) * (cy - ay) - (b_y - ay) * (cx - ax)
theorem cmpN_eq (x y : Int) : cmpN (x / 18446744073709551616) (x % 18446744073709551616) (y / 18446744073709551616) (y % 18446744073709551616) = sgn (x - y) := by
  unfold cmpN
  simp only [sgn_sub]
  repeat' split
  all_goals omega
theorem small_mul {a b : Int} (ha : -4294967296 ≤ a ∧ a ≤ 4294967296) (hb : -4294967296 ≤ b ∧ b ≤ 4294967296) : -18446744073709551616 ≤ a * b ∧ a * b ≤ 18446744073709551616 := by
  have key : ∀ x y : Int, 0 ≤ x → x ≤ 4294967296 → 0 ≤ y → y ≤ 4294967296 → 0 ≤ x * y ∧ x * y ≤ 18446744073709551616 := by
    intro x y h1 h2 h3 h4
    exact ⟨Int.mul_nonneg h1 h3, Int.le_trans (Int.mul_le_mul_of_nonneg_right h2 h3) (by omega)⟩
  rcases Int.le_total 0 a with h | h <;> rcases Int.le_total 0 b with h' | h'
  · have := key a b h (by omega) h' (by omega); omega
  · have := key a (-b) h (by omega) (by omega) (by omega); rw [Int.mul_neg] at this; omega
  · have := key b (-a) h' (by omega) (by omega) (by omega); rw [Int.mul_neg, Int.mul_comm] at this; omega
  · have := key (-a) (-b) (by omega) (by omega) (by omega) (by omega); rw [Int.neg_mul_neg] at this; omega

theorem v_Side (ax ay bx b_y cx cy : Int) (h1 : rm ax = true) (h2 : rm ay = true) (h3 : rm bx = true) (h4 : rm b_y = true) (h5 : rm cx = true) (h6 : rm cy = true) (m : Mem) (n : Nat) :
    callF TA 46 [.agg [I ax, I ay], .agg [I bx, I b_y], .agg [I cx, I cy]] m n = some (RI (sgn (cross ax ay bx b_y cx cy))) := by
  refine callF_of (Fn_ofK (fn := F46) rfl (by simp [F46]) ?_)
  rw [rm_iff] at h1 h2 h3 h4 h5 h6
  have w : ∀ a b : Int, (-2147483648 ≤ a ∧ a ≤ 2147483648) → (-2147483648 ≤ b ∧ b ≤ 2147483648) → IntKind.i64.wrap (a - b) = a - b := fun a b h k => wr_eq (by omega) (by omega)
  have v1 := fun m n => v_wMul (bx - ax) (cy - ay) (by omega) (by omega) (by omega) (by omega) m n
  have v2 := fun m n => v_wMul (b_y - ay) (cx - ax) (by omega) (by omega) (by omega) (by omega) m n
  try simp only [r46_0, r46_1, c46, F46, w bx ax h3 h1, w cy ay h6 h2, w b_y ay h4 h2, w cx ax h5 h1, v1, v2, v_NCmp, cmpN_eq, cross, go_sem, Int.reduceTMod, Int.reduceTDiv, Int.reduceDiv, Int.reduceMod, Int.reduceAdd, Int.reduceSub, Int.reduceMul, Int.reduceNeg, Int.reducePow, Int.reduceEq, ↓reduceIte, Nat.reduceEqDiff, Nat.reduceAdd, Nat.reduceMul, Nat.reduceLeDiff, Nat.reduceSub, Nat.reduceLT, Int.reduceToNat, Int.reduceLT, Int.reduceLE, reduceCtorEq]
  repeat' ((first | refine FK_split (fun h_ => ?_) (fun h_ => ?_) | refine GK_split (fun h_ => ?_) (fun h_ => ?_) | refine ite_both (fun h_ => ?_) (fun h_ => ?_)) <;> (try simp only [decide_eq_true_eq, decide_eq_false_iff_not, Bool.not_true, Bool.not_false, Bool.not_eq_true', Bool.not_eq_false', Bool.not_eq_eq_eq_not, Decidable.not_not] at h_) <;> (try simp only [r46_0, r46_1, c46, F46, w bx ax h3 h1, w cy ay h6 h2, w b_y ay h4 h2, w cx ax h5 h1, v1, v2, v_NCmp, cmpN_eq, cross, h_, go_sem, Int.reduceTMod, Int.reduceTDiv, Int.reduceDiv, Int.reduceMod, Int.reduceAdd, Int.reduceSub, Int.reduceMul, Int.reduceNeg, Int.reducePow, Int.reduceEq, ↓reduceIte, Nat.reduceEqDiff, Nat.reduceAdd, Nat.reduceMul, Nat.reduceLeDiff, Nat.reduceSub, Nat.reduceLT, Int.reduceToNat, Int.reduceLT, Int.reduceLE, reduceCtorEq]))

/- Package fixed walked: in room. Conditions: those that each theorem names. -/
open Go Go.Proofs
set_option linter.unusedSimpArgs false
set_option linter.unusedVariables false

theorem v_fIn (a : Int) (m : Mem) (n : Nat) : callF TA 34 [RI a] m n = some (RB (rm a)) := by
  refine callF_of (Fn_ofK (fn := F34) rfl (by simp [F34]) ?_)
  try simp only [r34_0, r34_1, c34, F34, rm, go_sem, Int.reduceTMod, Int.reduceTDiv, Int.reduceDiv, Int.reduceMod, Int.reduceAdd, Int.reduceSub, Int.reduceMul, Int.reduceNeg, Int.reducePow, Int.reduceEq, ↓reduceIte, Nat.reduceEqDiff, Nat.reduceAdd, Nat.reduceMul, Nat.reduceLeDiff, Nat.reduceSub, Nat.reduceLT, Int.reduceToNat, Int.reduceLT, Int.reduceLE, reduceCtorEq]
  repeat' ((first | refine FK_split (fun h_ => ?_) (fun h_ => ?_) | refine GK_split (fun h_ => ?_) (fun h_ => ?_) | refine ite_both (fun h_ => ?_) (fun h_ => ?_)) <;> (try simp only [decide_eq_true_eq, decide_eq_false_iff_not, Bool.not_true, Bool.not_false, Bool.not_eq_true', Bool.not_eq_false', Bool.not_eq_eq_eq_not, Decidable.not_not] at h_) <;> (try simp only [r34_0, r34_1, c34, F34, rm, h_, go_sem, Int.reduceTMod, Int.reduceTDiv, Int.reduceDiv, Int.reduceMod, Int.reduceAdd, Int.reduceSub, Int.reduceMul, Int.reduceNeg, Int.reducePow, Int.reduceEq, ↓reduceIte, Nat.reduceEqDiff, Nat.reduceAdd, Nat.reduceMul, Nat.reduceLeDiff, Nat.reduceSub, Nat.reduceLT, Int.reduceToNat, Int.reduceLT, Int.reduceLE, reduceCtorEq]))

/- Rows of records in memory: read, made, appended. Conditions: those that each theorem names. -/
open Go Go.Proofs
set_option linter.unusedSimpArgs false
set_option linter.unusedVariables false

theorem callF_ex {T : Nat → Option SFun} {f : Nat} {a : List Reg} {m : Mem} {n : Nat} {P : Reg → Prop} (h : Fn T f a m n (fun r _ _ => P r)) : ∃ r, callF T f a m n = some r ∧ P r := by
  obtain ⟨k, r, m', n', h1, h2⟩ := h
  exact ⟨r, by unfold callF; rw [callR_of h1]; rfl, h2⟩
/-- The number of the block that a slice lies in. -/
def sid : Reg → Option Nat
  | .one (.sl id _ _ _ _) => some id
  | _ => none

section
variable {α : Type} {enc : α → List Cell} {sz : Nat}
/-- The register reads as_ these records. -/
def RL (enc : α → List Cell) (sz : Nat) (m : Mem) (n : Nat) (r : Reg) (l : List α) : Prop :=
  (r = rnil ∧ l = []) ∨ ∃ id off cap, r = .one (.sl id off l.length cap sz) ∧ id < n ∧ rd m id off (l.length * sz) = some (l.flatMap enc)
/-- The register is a slice of the call's own, made behind base. -/
def OL (enc : α → List Cell) (sz base : Nat) (m : Mem) (n : Nat) (r : Reg) (l : List α) : Prop :=
  (r = rnil ∧ l = []) ∨ ∃ id, r = .one (.sl id 0 l.length none sz) ∧ base ≤ id ∧ id < n ∧ m id = some ⟨l.flatMap enc, true⟩

theorem OL.nil {base : Nat} {m : Mem} {n : Nat} : OL enc sz base m n rnil [] := Or.inl ⟨rfl, rfl⟩
theorem RL.nil {m : Mem} {n : Nat} : RL enc sz m n rnil [] := Or.inl ⟨rfl, rfl⟩
theorem OL.rl (hsz : ∀ x, (enc x).length = sz) {base : Nat} {m : Mem} {n : Nat} {r : Reg} {l : List α} (h : OL enc sz base m n r l) : RL enc sz m n r l := by
  rcases h with h | ⟨id, h1, h2, h3, h4⟩
  · exact Or.inl h
  · refine Or.inr ⟨id, 0, none, h1, h3, ?_⟩
    have hl := flatMap_len enc sz hsz l
    rw [rd_of h4]
    unfold rdB
    rw [if_pos (by rw [hl]; omega), List.drop_zero, ← hl, List.take_length]
theorem OL.keep {base : Nat} {m m' : Mem} {n n' : Nat} {r : Reg} {l : List α} (h : OL enc sz base m n r l) (hn : n ≤ n') (hm : ∀ id, base ≤ id → id < n → m' id = m id) : OL enc sz base m' n' r l := by
  rcases h with h | ⟨id, h1, h2, h3, h4⟩
  · exact Or.inl h
  · exact Or.inr ⟨id, h1, h2, by omega, by rw [hm id h2 h3]; exact h4⟩
theorem OL.base {b b' : Nat} {m : Mem} {n : Nat} {r : Reg} {l : List α} (h : OL enc sz b m n r l) (hb : b' ≤ b) : OL enc sz b' m n r l := by
  rcases h with h | ⟨id, h1, h2, h3, h4⟩
  · exact Or.inl h
  · exact Or.inr ⟨id, h1, by omega, h3, h4⟩
theorem RL.keep {m m' : Mem} {n n' : Nat} {r : Reg} {l : List α} (h : RL enc sz m n r l) (hn : n ≤ n') (hm : ∀ id, id < n → m' id = m id) : RL enc sz m' n' r l := by
  rcases h with h | ⟨id, off, cap, h1, h2, h3⟩
  · exact Or.inl h
  · refine Or.inr ⟨id, off, cap, h1, by omega, ?_⟩
    have : rd m' id off (l.length * sz) = rd m id off (l.length * sz) := by unfold rd; rw [hm id h2]
    rw [this]; exact h3
theorem RL.keep' {m m' : Mem} {n n' : Nat} {r : Reg} {l : List α} (h : RL enc sz m n r l) (hn : n ≤ n') (hm : ∀ id, sid r = some id → m' id = m id) : RL enc sz m' n' r l := by
  rcases h with h | ⟨id, off, cap, h1, h2, h3⟩
  · exact Or.inl h
  · refine Or.inr ⟨id, off, cap, h1, by omega, ?_⟩
    have : rd m' id off (l.length * sz) = rd m id off (l.length * sz) := by unfold rd; rw [hm id (by rw [h1]; rfl)]
    rw [this]; exact h3
theorem RL.frz {m : Mem} {n : Nat} {r : Reg} {l : List α} (h : RL enc sz m n r l) : RL enc sz (frz m) n r l := by
  rcases h with h | ⟨id, off, cap, h1, h2, h3⟩
  · exact Or.inl h
  · exact Or.inr ⟨id, off, cap, h1, h2, by rw [rd_frz]; exact h3⟩
theorem RL.lt {m : Mem} {n : Nat} {r : Reg} {l : List α} (h : RL enc sz m n r l) {i : Nat} (hi : sid r = some i) : i < n := by
  rcases h with ⟨rfl, _⟩ | ⟨id, off, cap, rfl, h2, h3⟩
  · cases hi
  · simp only [sid, Option.some.injEq] at hi; omega
theorem RL.len {m : Mem} {n : Nat} {r : Reg} {l : List α} (h : RL enc sz m n r l) : lenO r = some (l.length : Int) := by
  rcases h with ⟨rfl, rfl⟩ | ⟨id, off, cap, rfl, h2, h3⟩ <;> rfl
/-- The record i of a slice that is read. -/
theorem RL.at (hsz : ∀ x, (enc x).length = sz) {m : Mem} {n : Nat} {r : Reg} {l : List α} {i : Nat} {x : α} (h : RL enc sz m n r l) (hi : l[i]? = some x) :
    ∃ id off cap, r = .one (.sl id off l.length cap sz) ∧ id < n ∧ rd m id (off + i * sz) sz = some (enc x) := by
  rcases h with ⟨rfl, rfl⟩ | ⟨id, off, cap, h1, h2, h3⟩
  · simp at hi
  · exact ⟨id, off, cap, h1, h2, rd_at hsz h3 hi⟩

/-- One record more. -/
theorem K_push {T : Nat → Option SFun} (hsz : ∀ x, (enc x).length = sz) (hpos : 0 < sz) {base n0 n : Nat} {m0 m : Mem} {r0 : Reg} {l : List α} {p : α} {j by' : Nat} {o : Bool} {d : Option Nat} {os : List SOper} {e : Nat → Reg} {k : Kt}
    (ho : OL enc sz base m0 n0 r0 l) (hn : n0 ≤ n) (hm : ∀ id, base ≤ id → id < n0 → m id = m0 id) (hj : m j = some ⟨enc p, o⟩) (hsm : l.length + 1 ≤ 4294967296) (hbase : base ≤ n)
    (next : ∀ r m', OL enc sz base m' (n + 1) r (l ++ [p]) → (∀ id, id < base → m' id = m id) → (∀ id, id < n → sid r0 ≠ some id → m' id = m id) → RK T os (putE e d r) m' (n + 1) k) :
    ThenK T d os e k (evApp m n sz by' r0 (.one (.sl j 0 1 (some 1) sz))) := by
  have hx : newsOf m sz (.one (.sl j 0 1 (some 1) sz)) = some (1, enc p) := by
    simp only [newsOf, if_true]
    rw [rd_of hj]
    simp [rdB, hsz]
    exact List.take_of_length_le (by rw [hsz]; exact Nat.le_refl _)
  rcases ho with ⟨rfl, rfl⟩ | ⟨id, rfl, h2, h3, h4⟩
  · simp only [evApp, hx]
    rw [if_neg (by omega), if_pos (by omega)]
    refine next _ _ (Or.inr ⟨n, rfl, hbase, by omega, ?_⟩) (fun id hid => upd_ne _ _ (by omega)) (fun id hid _ => upd_ne _ _ (by omega))
    rw [upd_same]
    simp
  · have h5 : m id = some ⟨l.flatMap enc, true⟩ := by rw [hm id h2 h3]; exact h4
    have hl := flatMap_len enc sz hsz l
    have h6 : rd m id 0 (l.length * sz) = some (l.flatMap enc) := by
      rw [rd_of h5]
      unfold rdB
      rw [if_pos (by rw [hl]; omega), List.drop_zero, ← hl, List.take_length]
    simp only [evApp, hx, if_true, h5, h6, Option.map_some, true_and, if_pos hsm]
    refine next _ _ (Or.inr ⟨n, by simp, hbase, by omega, ?_⟩) (fun i hi => ?_) (fun i hi hs => ?_)
    · rw [upd_same]; simp
    · rw [upd_ne _ _ (by omega), upd_ne _ _ (by omega)]
    · rw [upd_ne _ _ (by omega), upd_ne _ _ (fun e => hs (by rw [e]; rfl))]
end

/- The reference of chapter 03 walked: products in two parts, sides. Conditions: those that each theorem names. -/
open Go Go.Proofs
set_option linter.unusedSimpArgs false
set_option linter.unusedVariables false

theorem partsOf (a b : Int) (ha : 0 ≤ a) (ha' : a ≤ 8589934592) (hb : 0 ≤ b) (hb' : b ≤ 8589934592) :
    IntKind.i64.wrap ((IntKind.i64.wrap ((IntKind.i64.wrap (Int.tdiv a 65536)) * b)) + (IntKind.i64.wrap (Int.tdiv (IntKind.i64.wrap ((Int.tmod a 65536) * b)) 65536))) = a * b / 65536 ∧ Int.tmod (IntKind.i64.wrap ((Int.tmod a 65536) * b)) 65536 = a * b % 65536 := by
  simp only [wrapI]
  have e1 : Int.tdiv a 65536 = a / 65536 := Int.tdiv_eq_ediv_of_nonneg ha
  have e2 : Int.tmod a 65536 = a % 65536 := Int.tmod_eq_emod_of_nonneg ha
  rw [e1, e2, w64' (n := a / 65536) (by omega) (by omega)]
  have b1 : 0 ≤ (a % 65536) * b := Int.mul_nonneg (by omega) hb
  have b2 : (a % 65536) * b ≤ 65536 * 8589934592 := Int.mul_le_mul (by omega) hb' hb (by omega)
  have b3 : 0 ≤ (a / 65536) * b := Int.mul_nonneg (by omega) hb
  have b4 : (a / 65536) * b ≤ 131072 * 8589934592 := Int.mul_le_mul (by omega) hb' hb (by omega)
  rw [w64' (n := (a % 65536) * b) (by omega) (by omega), w64' (n := (a / 65536) * b) (by omega) (by omega)]
  rw [Int.tdiv_eq_ediv_of_nonneg b1, Int.tmod_eq_emod_of_nonneg b1]
  have e : a * b = 65536 * ((a / 65536) * b) + (a % 65536) * b := by
    rw [← Int.mul_assoc, ← Int.add_mul, Int.mul_ediv_add_emod]
  rw [e]
  generalize (a / 65536) * b = p at *
  generalize (a % 65536) * b = q at *
  unfold Go.RowKit.wrap64
  omega
/-- A number from its sign and its size. -/
def nab (x : Int) : Int := if x < 0 then -x else x
theorem nab_neg (x : Int) : nab (-x) = nab x := by unfold nab; split <;> split <;> omega
theorem nab_nonneg (x : Int) : 0 ≤ nab x := by unfold nab; split <;> omega

theorem v_product (a b : Int) (ha : -8589934592 ≤ a) (ha' : a ≤ 8589934592) (hb : -8589934592 ≤ b) (hb' : b ≤ 8589934592) (m : Mem) (n : Nat) :
    callF TA 54 [RI a, RI b] m n = some (.tup [RI (sgn (a * b)), RI (nab (a * b) / 65536), RI (nab (a * b) % 65536)]) := by
  refine callF_of (Fn_ofK (fn := F54) rfl (by simp [F54]) ?_)
  have z0 : sgn 0 = 0 := rfl
  have z1 : nab 0 = 0 := rfl
  rcases Int.lt_trichotomy a 0 with h | h | h <;> rcases Int.lt_trichotomy b 0 with k | k | k
  · obtain ⟨p1, p2⟩ := partsOf (-a) (-b) (by omega) (by omega) (by omega) (by omega)
    have hp := Int.mul_pos (show 0 < -a by omega) (show 0 < -b by omega)
    rw [Int.neg_mul_neg] at hp p1 p2
    have e1 : IntKind.i64.wrap (0 - a) = -a := (wr_eq (by omega) (by omega)).trans (by omega)
    have e2 : IntKind.i64.wrap (0 - b) = -b := (wr_eq (by omega) (by omega)).trans (by omega)
    have e3 : (-a = 0) = False := eq_false (by omega)
    have e4 : (-b = 0) = False := eq_false (by omega)
    have e5 : nab (a * b) = a * b := by unfold nab; rw [if_neg (by omega)]
    try simp only [r54_0, r54_1, r54_2, r54_3, r54_4, r54_5, r54_6, r54_7, r54_8, r54_9, r54_10, r54_11, c54, F54, h, k, e1, e2, e3, e4, e5, p1, p2, sgn_pos hp, go_sem, Int.reduceTMod, Int.reduceTDiv, Int.reduceDiv, Int.reduceMod, Int.reduceAdd, Int.reduceSub, Int.reduceMul, Int.reduceNeg, Int.reducePow, Int.reduceEq, ↓reduceIte, Nat.reduceEqDiff, Nat.reduceAdd, Nat.reduceMul, Nat.reduceLeDiff, Nat.reduceSub, Nat.reduceLT, Int.reduceToNat, Int.reduceLT, Int.reduceLE, reduceCtorEq]
    repeat' ((first | refine FK_split (fun h_ => ?_) (fun h_ => ?_) | refine GK_split (fun h_ => ?_) (fun h_ => ?_) | refine ite_both (fun h_ => ?_) (fun h_ => ?_)) <;> (try simp only [decide_eq_true_eq, decide_eq_false_iff_not, Bool.not_true, Bool.not_false, Bool.not_eq_true', Bool.not_eq_false', Bool.not_eq_eq_eq_not, Decidable.not_not] at h_) <;> (try simp only [r54_0, r54_1, r54_2, r54_3, r54_4, r54_5, r54_6, r54_7, r54_8, r54_9, r54_10, r54_11, c54, F54, h, k, e1, e2, e3, e4, e5, p1, p2, sgn_pos hp, h_, go_sem, Int.reduceTMod, Int.reduceTDiv, Int.reduceDiv, Int.reduceMod, Int.reduceAdd, Int.reduceSub, Int.reduceMul, Int.reduceNeg, Int.reducePow, Int.reduceEq, ↓reduceIte, Nat.reduceEqDiff, Nat.reduceAdd, Nat.reduceMul, Nat.reduceLeDiff, Nat.reduceSub, Nat.reduceLT, Int.reduceToNat, Int.reduceLT, Int.reduceLE, reduceCtorEq]))
  · subst k
    have e1 : IntKind.i64.wrap (0 - a) = -a := (wr_eq (by omega) (by omega)).trans (by omega)
    have e3 : (-a = 0) = False := eq_false (by omega)
    try simp only [r54_0, r54_1, r54_2, r54_3, r54_4, r54_5, r54_6, r54_7, r54_8, r54_9, r54_10, r54_11, c54, F54, h, e1, e3, Int.mul_zero, z0, z1, Int.zero_ediv, Int.zero_emod, go_sem, Int.reduceTMod, Int.reduceTDiv, Int.reduceDiv, Int.reduceMod, Int.reduceAdd, Int.reduceSub, Int.reduceMul, Int.reduceNeg, Int.reducePow, Int.reduceEq, ↓reduceIte, Nat.reduceEqDiff, Nat.reduceAdd, Nat.reduceMul, Nat.reduceLeDiff, Nat.reduceSub, Nat.reduceLT, Int.reduceToNat, Int.reduceLT, Int.reduceLE, reduceCtorEq]
    repeat' ((first | refine FK_split (fun h_ => ?_) (fun h_ => ?_) | refine GK_split (fun h_ => ?_) (fun h_ => ?_) | refine ite_both (fun h_ => ?_) (fun h_ => ?_)) <;> (try simp only [decide_eq_true_eq, decide_eq_false_iff_not, Bool.not_true, Bool.not_false, Bool.not_eq_true', Bool.not_eq_false', Bool.not_eq_eq_eq_not, Decidable.not_not] at h_) <;> (try simp only [r54_0, r54_1, r54_2, r54_3, r54_4, r54_5, r54_6, r54_7, r54_8, r54_9, r54_10, r54_11, c54, F54, h, e1, e3, Int.mul_zero, z0, z1, Int.zero_ediv, Int.zero_emod, h_, go_sem, Int.reduceTMod, Int.reduceTDiv, Int.reduceDiv, Int.reduceMod, Int.reduceAdd, Int.reduceSub, Int.reduceMul, Int.reduceNeg, Int.reducePow, Int.reduceEq, ↓reduceIte, Nat.reduceEqDiff, Nat.reduceAdd, Nat.reduceMul, Nat.reduceLeDiff, Nat.reduceSub, Nat.reduceLT, Int.reduceToNat, Int.reduceLT, Int.reduceLE, reduceCtorEq]))
  · obtain ⟨p1, p2⟩ := partsOf (-a) b (by omega) (by omega) (by omega) (by omega)
    have hp := Int.mul_pos (show 0 < -a by omega) k
    rw [Int.neg_mul] at hp p1 p2
    have e1 : IntKind.i64.wrap (0 - a) = -a := (wr_eq (by omega) (by omega)).trans (by omega)
    have e2 : (b < 0) = False := eq_false (by omega)
    have e3 : (-a = 0) = False := eq_false (by omega)
    have e4 : (b = 0) = False := eq_false (by omega)
    have e5 : nab (a * b) = -(a * b) := by unfold nab; rw [if_pos (by omega)]
    have e6 : sgn (a * b) = -1 := sgn_neg (by omega)
    try simp only [r54_0, r54_1, r54_2, r54_3, r54_4, r54_5, r54_6, r54_7, r54_8, r54_9, r54_10, r54_11, c54, F54, h, e1, e2, e3, e4, e5, e6, p1, p2, go_sem, Int.reduceTMod, Int.reduceTDiv, Int.reduceDiv, Int.reduceMod, Int.reduceAdd, Int.reduceSub, Int.reduceMul, Int.reduceNeg, Int.reducePow, Int.reduceEq, ↓reduceIte, Nat.reduceEqDiff, Nat.reduceAdd, Nat.reduceMul, Nat.reduceLeDiff, Nat.reduceSub, Nat.reduceLT, Int.reduceToNat, Int.reduceLT, Int.reduceLE, reduceCtorEq]
    repeat' ((first | refine FK_split (fun h_ => ?_) (fun h_ => ?_) | refine GK_split (fun h_ => ?_) (fun h_ => ?_) | refine ite_both (fun h_ => ?_) (fun h_ => ?_)) <;> (try simp only [decide_eq_true_eq, decide_eq_false_iff_not, Bool.not_true, Bool.not_false, Bool.not_eq_true', Bool.not_eq_false', Bool.not_eq_eq_eq_not, Decidable.not_not] at h_) <;> (try simp only [r54_0, r54_1, r54_2, r54_3, r54_4, r54_5, r54_6, r54_7, r54_8, r54_9, r54_10, r54_11, c54, F54, h, e1, e2, e3, e4, e5, e6, p1, p2, h_, go_sem, Int.reduceTMod, Int.reduceTDiv, Int.reduceDiv, Int.reduceMod, Int.reduceAdd, Int.reduceSub, Int.reduceMul, Int.reduceNeg, Int.reducePow, Int.reduceEq, ↓reduceIte, Nat.reduceEqDiff, Nat.reduceAdd, Nat.reduceMul, Nat.reduceLeDiff, Nat.reduceSub, Nat.reduceLT, Int.reduceToNat, Int.reduceLT, Int.reduceLE, reduceCtorEq]))
  · subst h
    have e1 : IntKind.i64.wrap (0 - b) = -b := (wr_eq (by omega) (by omega)).trans (by omega)
    try simp only [r54_0, r54_1, r54_2, r54_3, r54_4, r54_5, r54_6, r54_7, r54_8, r54_9, r54_10, r54_11, c54, F54, k, e1, Int.zero_mul, z0, z1, Int.zero_ediv, Int.zero_emod, go_sem, Int.reduceTMod, Int.reduceTDiv, Int.reduceDiv, Int.reduceMod, Int.reduceAdd, Int.reduceSub, Int.reduceMul, Int.reduceNeg, Int.reducePow, Int.reduceEq, ↓reduceIte, Nat.reduceEqDiff, Nat.reduceAdd, Nat.reduceMul, Nat.reduceLeDiff, Nat.reduceSub, Nat.reduceLT, Int.reduceToNat, Int.reduceLT, Int.reduceLE, reduceCtorEq]
    repeat' ((first | refine FK_split (fun h_ => ?_) (fun h_ => ?_) | refine GK_split (fun h_ => ?_) (fun h_ => ?_) | refine ite_both (fun h_ => ?_) (fun h_ => ?_)) <;> (try simp only [decide_eq_true_eq, decide_eq_false_iff_not, Bool.not_true, Bool.not_false, Bool.not_eq_true', Bool.not_eq_false', Bool.not_eq_eq_eq_not, Decidable.not_not] at h_) <;> (try simp only [r54_0, r54_1, r54_2, r54_3, r54_4, r54_5, r54_6, r54_7, r54_8, r54_9, r54_10, r54_11, c54, F54, k, e1, Int.zero_mul, z0, z1, Int.zero_ediv, Int.zero_emod, h_, go_sem, Int.reduceTMod, Int.reduceTDiv, Int.reduceDiv, Int.reduceMod, Int.reduceAdd, Int.reduceSub, Int.reduceMul, Int.reduceNeg, Int.reducePow, Int.reduceEq, ↓reduceIte, Nat.reduceEqDiff, Nat.reduceAdd, Nat.reduceMul, Nat.reduceLeDiff, Nat.reduceSub, Nat.reduceLT, Int.reduceToNat, Int.reduceLT, Int.reduceLE, reduceCtorEq]))
  · subst h
    subst k
    try simp only [r54_0, r54_1, r54_2, r54_3, r54_4, r54_5, r54_6, r54_7, r54_8, r54_9, r54_10, r54_11, c54, F54, Int.zero_mul, z0, z1, Int.zero_ediv, Int.zero_emod, go_sem, Int.reduceTMod, Int.reduceTDiv, Int.reduceDiv, Int.reduceMod, Int.reduceAdd, Int.reduceSub, Int.reduceMul, Int.reduceNeg, Int.reducePow, Int.reduceEq, ↓reduceIte, Nat.reduceEqDiff, Nat.reduceAdd, Nat.reduceMul, Nat.reduceLeDiff, Nat.reduceSub, Nat.reduceLT, Int.reduceToNat, Int.reduceLT, Int.reduceLE, reduceCtorEq]
    repeat' ((first | refine FK_split (fun h_ => ?_) (fun h_ => ?_) | refine GK_split (fun h_ => ?_) (fun h_ => ?_) | refine ite_both (fun h_ => ?_) (fun h_ => ?_)) <;> (try simp only [decide_eq_true_eq, decide_eq_false_iff_not, Bool.not_true, Bool.not_false, Bool.not_eq_true', Bool.not_eq_false', Bool.not_eq_eq_eq_not, Decidable.not_not] at h_) <;> (try simp only [r54_0, r54_1, r54_2, r54_3, r54_4, r54_5, r54_6, r54_7, r54_8, r54_9, r54_10, r54_11, c54, F54, Int.zero_mul, z0, z1, Int.zero_ediv, Int.zero_emod, h_, go_sem, Int.reduceTMod, Int.reduceTDiv, Int.reduceDiv, Int.reduceMod, Int.reduceAdd, Int.reduceSub, Int.reduceMul, Int.reduceNeg, Int.reducePow, Int.reduceEq, ↓reduceIte, Nat.reduceEqDiff, Nat.reduceAdd, Nat.reduceMul, Nat.reduceLeDiff, Nat.reduceSub, Nat.reduceLT, Int.reduceToNat, Int.reduceLT, Int.reduceLE, reduceCtorEq]))
  · subst h
    have e2 : (b < 0) = False := eq_false (by omega)
    try simp only [r54_0, r54_1, r54_2, r54_3, r54_4, r54_5, r54_6, r54_7, r54_8, r54_9, r54_10, r54_11, c54, F54, e2, Int.zero_mul, z0, z1, Int.zero_ediv, Int.zero_emod, go_sem, Int.reduceTMod, Int.reduceTDiv, Int.reduceDiv, Int.reduceMod, Int.reduceAdd, Int.reduceSub, Int.reduceMul, Int.reduceNeg, Int.reducePow, Int.reduceEq, ↓reduceIte, Nat.reduceEqDiff, Nat.reduceAdd, Nat.reduceMul, Nat.reduceLeDiff, Nat.reduceSub, Nat.reduceLT, Int.reduceToNat, Int.reduceLT, Int.reduceLE, reduceCtorEq]
    repeat' ((first | refine FK_split (fun h_ => ?_) (fun h_ => ?_) | refine GK_split (fun h_ => ?_) (fun h_ => ?_) | refine ite_both (fun h_ => ?_) (fun h_ => ?_)) <;> (try simp only [decide_eq_true_eq, decide_eq_false_iff_not, Bool.not_true, Bool.not_false, Bool.not_eq_true', Bool.not_eq_false', Bool.not_eq_eq_eq_not, Decidable.not_not] at h_) <;> (try simp only [r54_0, r54_1, r54_2, r54_3, r54_4, r54_5, r54_6, r54_7, r54_8, r54_9, r54_10, r54_11, c54, F54, e2, Int.zero_mul, z0, z1, Int.zero_ediv, Int.zero_emod, h_, go_sem, Int.reduceTMod, Int.reduceTDiv, Int.reduceDiv, Int.reduceMod, Int.reduceAdd, Int.reduceSub, Int.reduceMul, Int.reduceNeg, Int.reducePow, Int.reduceEq, ↓reduceIte, Nat.reduceEqDiff, Nat.reduceAdd, Nat.reduceMul, Nat.reduceLeDiff, Nat.reduceSub, Nat.reduceLT, Int.reduceToNat, Int.reduceLT, Int.reduceLE, reduceCtorEq]))
  · obtain ⟨p1, p2⟩ := partsOf a (-b) (by omega) (by omega) (by omega) (by omega)
    have hp := Int.mul_pos h (show 0 < -b by omega)
    rw [Int.mul_neg] at hp
    have e7 : a * -b = -(a * b) := Int.mul_neg a b
    have e1 : IntKind.i64.wrap (0 - b) = -b := (wr_eq (by omega) (by omega)).trans (by omega)
    have e2 : (a < 0) = False := eq_false (by omega)
    have e3 : (a = 0) = False := eq_false (by omega)
    have e4 : (-b = 0) = False := eq_false (by omega)
    have e5 : nab (a * b) = -(a * b) := by unfold nab; rw [if_pos (by omega)]
    have e6 : sgn (a * b) = -1 := sgn_neg (by omega)
    try simp only [r54_0, r54_1, r54_2, r54_3, r54_4, r54_5, r54_6, r54_7, r54_8, r54_9, r54_10, r54_11, c54, F54, k, e1, e2, e3, e4, e5, e6, p1, p2, e7, go_sem, Int.reduceTMod, Int.reduceTDiv, Int.reduceDiv, Int.reduceMod, Int.reduceAdd, Int.reduceSub, Int.reduceMul, Int.reduceNeg, Int.reducePow, Int.reduceEq, ↓reduceIte, Nat.reduceEqDiff, Nat.reduceAdd, Nat.reduceMul, Nat.reduceLeDiff, Nat.reduceSub, Nat.reduceLT, Int.reduceToNat, Int.reduceLT, Int.reduceLE, reduceCtorEq]
    repeat' ((first | refine FK_split (fun h_ => ?_) (fun h_ => ?_) | refine GK_split (fun h_ => ?_) (fun h_ => ?_) | refine ite_both (fun h_ => ?_) (fun h_ => ?_)) <;> (try simp only [decide_eq_true_eq, decide_eq_false_iff_not, Bool.not_true, Bool.not_false, Bool.not_eq_true', Bool.not_eq_false', Bool.not_eq_eq_eq_not, Decidable.not_not] at h_) <;> (try simp only [r54_0, r54_1, r54_2, r54_3, r54_4, r54_5, r54_6, r54_7, r54_8, r54_9, r54_10, r54_11, c54, F54, k, e1, e2, e3, e4, e5, e6, p1, p2, e7, h_, go_sem, Int.reduceTMod, Int.reduceTDiv, Int.reduceDiv, Int.reduceMod, Int.reduceAdd, Int.reduceSub, Int.reduceMul, Int.reduceNeg, Int.reducePow, Int.reduceEq, ↓reduceIte, Nat.reduceEqDiff, Nat.reduceAdd, Nat.reduceMul, Nat.reduceLeDiff, Nat.reduceSub, Nat.reduceLT, Int.reduceToNat, Int.reduceLT, Int.reduceLE, reduceCtorEq]))
  · subst k
    have e2 : (a < 0) = False := eq_false (by omega)
    have e3 : (a = 0) = False := eq_false (by omega)
    try simp only [r54_0, r54_1, r54_2, r54_3, r54_4, r54_5, r54_6, r54_7, r54_8, r54_9, r54_10, r54_11, c54, F54, e2, e3, Int.mul_zero, z0, z1, Int.zero_ediv, Int.zero_emod, go_sem, Int.reduceTMod, Int.reduceTDiv, Int.reduceDiv, Int.reduceMod, Int.reduceAdd, Int.reduceSub, Int.reduceMul, Int.reduceNeg, Int.reducePow, Int.reduceEq, ↓reduceIte, Nat.reduceEqDiff, Nat.reduceAdd, Nat.reduceMul, Nat.reduceLeDiff, Nat.reduceSub, Nat.reduceLT, Int.reduceToNat, Int.reduceLT, Int.reduceLE, reduceCtorEq]
    repeat' ((first | refine FK_split (fun h_ => ?_) (fun h_ => ?_) | refine GK_split (fun h_ => ?_) (fun h_ => ?_) | refine ite_both (fun h_ => ?_) (fun h_ => ?_)) <;> (try simp only [decide_eq_true_eq, decide_eq_false_iff_not, Bool.not_true, Bool.not_false, Bool.not_eq_true', Bool.not_eq_false', Bool.not_eq_eq_eq_not, Decidable.not_not] at h_) <;> (try simp only [r54_0, r54_1, r54_2, r54_3, r54_4, r54_5, r54_6, r54_7, r54_8, r54_9, r54_10, r54_11, c54, F54, e2, e3, Int.mul_zero, z0, z1, Int.zero_ediv, Int.zero_emod, h_, go_sem, Int.reduceTMod, Int.reduceTDiv, Int.reduceDiv, Int.reduceMod, Int.reduceAdd, Int.reduceSub, Int.reduceMul, Int.reduceNeg, Int.reducePow, Int.reduceEq, ↓reduceIte, Nat.reduceEqDiff, Nat.reduceAdd, Nat.reduceMul, Nat.reduceLeDiff, Nat.reduceSub, Nat.reduceLT, Int.reduceToNat, Int.reduceLT, Int.reduceLE, reduceCtorEq]))
  · obtain ⟨p1, p2⟩ := partsOf a b (by omega) (by omega) (by omega) (by omega)
    have hp := Int.mul_pos h k
    have e1 : (a < 0) = False := eq_false (by omega)
    have e2 : (b < 0) = False := eq_false (by omega)
    have e3 : (a = 0) = False := eq_false (by omega)
    have e4 : (b = 0) = False := eq_false (by omega)
    have e5 : nab (a * b) = a * b := by unfold nab; rw [if_neg (by omega)]
    try simp only [r54_0, r54_1, r54_2, r54_3, r54_4, r54_5, r54_6, r54_7, r54_8, r54_9, r54_10, r54_11, c54, F54, e1, e2, e3, e4, e5, p1, p2, sgn_pos hp, go_sem, Int.reduceTMod, Int.reduceTDiv, Int.reduceDiv, Int.reduceMod, Int.reduceAdd, Int.reduceSub, Int.reduceMul, Int.reduceNeg, Int.reducePow, Int.reduceEq, ↓reduceIte, Nat.reduceEqDiff, Nat.reduceAdd, Nat.reduceMul, Nat.reduceLeDiff, Nat.reduceSub, Nat.reduceLT, Int.reduceToNat, Int.reduceLT, Int.reduceLE, reduceCtorEq]
    repeat' ((first | refine FK_split (fun h_ => ?_) (fun h_ => ?_) | refine GK_split (fun h_ => ?_) (fun h_ => ?_) | refine ite_both (fun h_ => ?_) (fun h_ => ?_)) <;> (try simp only [decide_eq_true_eq, decide_eq_false_iff_not, Bool.not_true, Bool.not_false, Bool.not_eq_true', Bool.not_eq_false', Bool.not_eq_eq_eq_not, Decidable.not_not] at h_) <;> (try simp only [r54_0, r54_1, r54_2, r54_3, r54_4, r54_5, r54_6, r54_7, r54_8, r54_9, r54_10, r54_11, c54, F54, e1, e2, e3, e4, e5, p1, p2, sgn_pos hp, h_, go_sem, Int.reduceTMod, Int.reduceTDiv, Int.reduceDiv, Int.reduceMod, Int.reduceAdd, Int.reduceSub, Int.reduceMul, Int.reduceNeg, Int.reducePow, Int.reduceEq, ↓reduceIte, Nat.reduceEqDiff, Nat.reduceAdd, Nat.reduceMul, Nat.reduceLeDiff, Nat.reduceSub, Nat.reduceLT, Int.reduceToNat, Int.reduceLT, Int.reduceLE, reduceCtorEq]))

theorem sgn_diff (p q : Int) : sgn (p - q) = if sgn p = sgn q then (if nab p / 65536 = nab q / 65536 ∧ nab p % 65536 = nab q % 65536 then 0 else if nab q / 65536 < nab p / 65536 ∨ nab p / 65536 = nab q / 65536 ∧ nab q % 65536 < nab p % 65536 then sgn p else -sgn p) else if sgn q < sgn p then 1 else -1 := by
  unfold sgn nab
  repeat' split
  all_goals omega
theorem v_rSide (ax ay bx b_y cx cy : Int) (h1 : rm ax = true) (h2 : rm ay = true) (h3 : rm bx = true) (h4 : rm b_y = true) (h5 : rm cx = true) (h6 : rm cy = true) (m : Mem) (n : Nat) :
    callF TA 47 [.agg [I ax, I ay], .agg [I bx, I b_y], .agg [I cx, I cy]] m n = some (RI (sgn (cross ax ay bx b_y cx cy))) := by
  refine callF_of (Fn_ofK (fn := F47) rfl (by simp [F47]) ?_)
  rw [rm_iff] at h1 h2 h3 h4 h5 h6
  have w : ∀ a b : Int, (-2147483648 ≤ a ∧ a ≤ 2147483648) → (-2147483648 ≤ b ∧ b ≤ 2147483648) → IntKind.i64.wrap (a - b) = a - b := fun a b h k => wr_eq (by omega) (by omega)
  have v1 := fun m n => v_product (bx - ax) (cy - ay) (by omega) (by omega) (by omega) (by omega) m n
  have v2 := fun m n => v_product (b_y - ay) (cx - ax) (by omega) (by omega) (by omega) (by omega) m n
  unfold cross
  rw [sgn_diff]
  generalize (bx - ax) * (cy - ay) = p at *
  generalize (b_y - ay) * (cx - ax) = q at *
  have hw : IntKind.i64.wrap (0 - sgn p) = -sgn p := by have := sgn_bd p; exact (wr_eq (by omega) (by omega)).trans (by omega)
  have hw2 : IntKind.i64.wrap (0 - sgn q) = -sgn q := by have := sgn_bd q; exact (wr_eq (by omega) (by omega)).trans (by omega)
  by_cases c1 : sgn p = sgn q <;> by_cases c2 : sgn q < sgn p <;> by_cases c3 : nab p / 65536 = nab q / 65536 <;> by_cases c4 : nab p % 65536 = nab q % 65536 <;> by_cases c5 : nab q / 65536 < nab p / 65536 <;> by_cases c6 : nab q % 65536 < nab p % 65536
  all_goals (try omega)
  all_goals
    try simp only [r47_0, r47_1, r47_2, r47_3, r47_4, r47_5, r47_6, r47_7, r47_8, r47_9, r47_10, r47_11, c47, F47, w bx ax h3 h1, w cy ay h6 h2, w b_y ay h4 h2, w cx ax h5 h1, v1, v2, hw, hw2, c1, c2, c3, c4, c5, c6, or_false, false_or, or_true, true_or, or_self, and_self, go_sem, Int.reduceTMod, Int.reduceTDiv, Int.reduceDiv, Int.reduceMod, Int.reduceAdd, Int.reduceSub, Int.reduceMul, Int.reduceNeg, Int.reducePow, Int.reduceEq, ↓reduceIte, Nat.reduceEqDiff, Nat.reduceAdd, Nat.reduceMul, Nat.reduceLeDiff, Nat.reduceSub, Nat.reduceLT, Int.reduceToNat, Int.reduceLT, Int.reduceLE, reduceCtorEq]
    repeat' ((first | refine FK_split (fun h_ => ?_) (fun h_ => ?_) | refine GK_split (fun h_ => ?_) (fun h_ => ?_) | refine ite_both (fun h_ => ?_) (fun h_ => ?_)) <;> (try simp only [decide_eq_true_eq, decide_eq_false_iff_not, Bool.not_true, Bool.not_false, Bool.not_eq_true', Bool.not_eq_false', Bool.not_eq_eq_eq_not, Decidable.not_not] at h_) <;> (try simp only [r47_0, r47_1, r47_2, r47_3, r47_4, r47_5, r47_6, r47_7, r47_8, r47_9, r47_10, r47_11, c47, F47, w bx ax h3 h1, w cy ay h6 h2, w b_y ay h4 h2, w cx ax h5 h1, v1, v2, hw, hw2, c1, c2, c3, c4, c5, c6, or_false, false_or, or_true, true_or, or_self, and_self, h_, go_sem, Int.reduceTMod, Int.reduceTDiv, Int.reduceDiv, Int.reduceMod, Int.reduceAdd, Int.reduceSub, Int.reduceMul, Int.reduceNeg, Int.reducePow, Int.reduceEq, ↓reduceIte, Nat.reduceEqDiff, Nat.reduceAdd, Nat.reduceMul, Nat.reduceLeDiff, Nat.reduceSub, Nat.reduceLT, Int.reduceToNat, Int.reduceLT, Int.reduceLE, reduceCtorEq]))

/- How often a closed line goes round a place, walked: the program's. Conditions: those that each theorem names. -/
open Go Go.Proofs
set_option linter.unusedSimpArgs false
set_option linter.unusedVariables false

structure Pt where
  x : Int
  y : Int
abbrev Pt.cs (p : Pt) : List Cell := [I p.x, I p.y]
abbrev Pt.r (p : Pt) : Reg := .agg [I p.x, I p.y]
def inP (p : Pt) : Bool := rm p.x && rm p.y
theorem cs2 (p : Pt) : p.cs.length = 2 := rfl
theorem v_PIn (x y : Int) (m : Mem) (n : Nat) : callF TA 28 [.agg [I x, I y]] m n = some (RB (inP ⟨x, y⟩)) := by
  refine callF_of (Fn_ofK (fn := F28) rfl (by simp [F28]) ?_)
  try simp only [r28_0, r28_1, c28, F28, v_fIn, inP, go_sem, Int.reduceTMod, Int.reduceTDiv, Int.reduceDiv, Int.reduceMod, Int.reduceAdd, Int.reduceSub, Int.reduceMul, Int.reduceNeg, Int.reducePow, Int.reduceEq, ↓reduceIte, Nat.reduceEqDiff, Nat.reduceAdd, Nat.reduceMul, Nat.reduceLeDiff, Nat.reduceSub, Nat.reduceLT, Int.reduceToNat, Int.reduceLT, Int.reduceLE, reduceCtorEq]
  repeat' ((first | refine FK_split (fun h_ => ?_) (fun h_ => ?_) | refine GK_split (fun h_ => ?_) (fun h_ => ?_) | refine ite_both (fun h_ => ?_) (fun h_ => ?_)) <;> (try simp only [decide_eq_true_eq, decide_eq_false_iff_not, Bool.not_true, Bool.not_false, Bool.not_eq_true', Bool.not_eq_false', Bool.not_eq_eq_eq_not, Decidable.not_not] at h_) <;> (try simp only [r28_0, r28_1, c28, F28, v_fIn, inP, h_, go_sem, Int.reduceTMod, Int.reduceTDiv, Int.reduceDiv, Int.reduceMod, Int.reduceAdd, Int.reduceSub, Int.reduceMul, Int.reduceNeg, Int.reducePow, Int.reduceEq, ↓reduceIte, Nat.reduceEqDiff, Nat.reduceAdd, Nat.reduceMul, Nat.reduceLeDiff, Nat.reduceSub, Nat.reduceLT, Int.reduceToNat, Int.reduceLT, Int.reduceLE, reduceCtorEq]))
abbrev RPt := RL Pt.cs 2
def crossP (p q s : Pt) : Int := cross p.x p.y q.x q.y s.x s.y
def edgeW (p q s : Pt) : Int := if (p.y ≤ s.y ∧ s.y < q.y) ∧ 0 < crossP p q s then 1 else if (q.y ≤ s.y ∧ s.y < p.y) ∧ crossP p q s < 0 then -1 else 0
/-- The edges into the places below i. -/
def windsTo (l : List Pt) (s : Pt) : Nat → Int
  | 0 => 0
  | i + 1 => windsTo l s i + (match l[(i + l.length - 1) % l.length]?, l[i]? with | some p, some q => edgeW p q s | _, _ => 0)
theorem sgW_pos {x : Int} : (0 < sgn x) = (0 < x) := by unfold sgn; repeat' split <;> (try simp) <;> omega
theorem sgW_neg {x : Int} : (sgn x < 0) = (x < 0) := by unfold sgn; repeat' split <;> (try simp) <;> omega
theorem winds_bd (l : List Pt) (s : Pt) : ∀ i : Nat, -(i : Int) ≤ windsTo l s i ∧ windsTo l s i ≤ i
  | 0 => by simp [windsTo]
  | i + 1 => by
    have ih := winds_bd l s i
    have he : ∀ p q : Pt, -1 ≤ edgeW p q s ∧ edgeW p q s ≤ 1 := fun p q => by unfold edgeW; repeat' split <;> omega
    rw [windsTo]
    split
    · rename_i p q _ _
      have := he p q
      omega
    · omega
theorem v_Winds (r : Reg) (l : List Pt) (s : Pt) (m : Mem) (n : Nat) (hr : RPt m n r l) (hl : l.length < 1000000) (hi : l.all inP = true) (hs : inP s = true) : callF TA 38 [r, .agg [I s.x, I s.y]] m n = some (RI (windsTo l s l.length)) := by
  refine callF_of (Fn_ofK (fn := F38) rfl (by simp [F38]) ?_)
  have hlen := hr.len
  have hs' : inP ⟨s.x, s.y⟩ = true := hs
  simp only [inP, Bool.and_eq_true] at hs'
  try simp only [r38_0, r38_1, r38_2, r38_3, r38_4, r38_5, r38_6, r38_7, r38_8, r38_9, r38_10, r38_11, c38, F38, hlen, go_sem, Int.reduceTMod, Int.reduceTDiv, Int.reduceDiv, Int.reduceMod, Int.reduceAdd, Int.reduceSub, Int.reduceMul, Int.reduceNeg, Int.reducePow, Int.reduceEq, ↓reduceIte, Nat.reduceEqDiff, Nat.reduceAdd, Nat.reduceMul, Nat.reduceLeDiff, Nat.reduceSub, Nat.reduceLT, Int.reduceToNat, Int.reduceLT, Int.reduceLE, reduceCtorEq]
  repeat' ((first | refine FK_split (fun h_ => ?_) (fun h_ => ?_) | refine GK_split (fun h_ => ?_) (fun h_ => ?_) | refine ite_both (fun h_ => ?_) (fun h_ => ?_)) <;> (try simp only [decide_eq_true_eq, decide_eq_false_iff_not, Bool.not_true, Bool.not_false, Bool.not_eq_true', Bool.not_eq_false', Bool.not_eq_eq_eq_not, Decidable.not_not] at h_) <;> (try simp only [r38_0, r38_1, r38_2, r38_3, r38_4, r38_5, r38_6, r38_7, r38_8, r38_9, r38_10, r38_11, c38, F38, hlen, h_, go_sem, Int.reduceTMod, Int.reduceTDiv, Int.reduceDiv, Int.reduceMod, Int.reduceAdd, Int.reduceSub, Int.reduceMul, Int.reduceNeg, Int.reducePow, Int.reduceEq, ↓reduceIte, Nat.reduceEqDiff, Nat.reduceAdd, Nat.reduceMul, Nat.reduceLeDiff, Nat.reduceSub, Nat.reduceLT, Int.reduceToNat, Int.reduceLT, Int.reduceLE, reduceCtorEq]))
  refine XK_iter (inv := fun i t => t.e 11 = RI i ∧ t.e 10 = RI l.length ∧ t.e 9 = r ∧ t.e 0 = r ∧ t.e 3 = .one (.ptr n 0) ∧ t.e 5 = RI (windsTo l s i) ∧ n + 1 ≤ t.n ∧ (∀ id, id < n → t.m id = m id) ∧ t.m n = some ⟨[I s.x, I s.y], true⟩) l.length
    (fun L _ => ⟨fun i hi' t ht next => ?_, fun t ht => ?_⟩) 0 (by omega) _ ⟨?_, ?_, ?_, ?_, ?_, ?_, ?_, fun id hid => ?_, ?_⟩
  · obtain ⟨e, M, N⟩ := t
    obtain ⟨q11, q10, q9, q0, q3, q5, qn, qm, qs⟩ := ht
    simp only at q11 q10 q9 q0 q3 q5 qn qm qs
    have hr2 : RPt M N r l := hr.keep (by omega) qm
    have hq : l[i]? = some l[i] := List.getElem?_eq_getElem hi'
    have hj : (i + l.length - 1) % l.length < l.length := Nat.mod_lt _ (by omega)
    have hp : l[(i + l.length - 1) % l.length]? = some (l[(i + l.length - 1) % l.length]'hj) := List.getElem?_eq_getElem hj
    obtain ⟨id, off, cap, hr1, hid, hrd⟩ := hr2.at cs2 hq
    obtain ⟨id', off', cap', hr1', _, hrd'⟩ := hr2.at cs2 hp
    rw [hr1] at hr1'
    simp only [Reg.one.injEq, Cell.sl.injEq, true_and] at hr1'
    obtain ⟨rfl, rfl, rfl, _⟩ := hr1'
    have hw : windsTo l s (i + 1) = windsTo l s i + edgeW (l[(i + l.length - 1) % l.length]'hj) l[i] s := by rw [windsTo, hp, hq]
    have iq : inP ⟨l[i].x, l[i].y⟩ = true := List.all_eq_true.1 hi _ (List.getElem_mem hi')
    have ip : inP ⟨(l[(i + l.length - 1) % l.length]'hj).x, (l[(i + l.length - 1) % l.length]'hj).y⟩ = true := List.all_eq_true.1 hi _ (List.getElem_mem hj)
    have c2 : ((i : Int) < (l.length : Int)) = True := eq_true (by omega)
    have c3 : (0 ≤ (i : Int)) = True := eq_true (by omega)
    have c7 : IntKind.i64.wrap ((i : Int) + 1) = ((i + 1 : Nat) : Int) := wr_nat (by omega)
    have d1 : IntKind.i64.wrap ((i : Int) + (l.length : Int)) = (i : Int) + l.length := wr_eq (by omega) (by omega)
    have d2 : IntKind.i64.wrap ((i : Int) + (l.length : Int) - 1) = (i : Int) + l.length - 1 := wr_eq (by omega) (by omega)
    have d3 : ((i : Int) + l.length - 1).tmod (l.length : Int) = (((i + l.length - 1) % l.length : Nat) : Int) := by
      rw [show ((i : Int) + l.length - 1) = ((i + l.length - 1 : Nat) : Int) by omega]
      exact (Int.ofNat_tmod _ _).symm
    have d4 : ((l.length : Int) = 0) = False := eq_false (by omega)
    generalize (i + l.length - 1) % l.length = j at *
    have d5 : ((j : Int) < (l.length : Int)) = True := eq_true (by omega)
    have d6 : (0 ≤ (j : Int)) = True := eq_true (by omega)
    have hb := winds_bd l s i
    generalize windsTo l s (i + 1) = w1 at *
    generalize windsTo l s i = w0 at *
    generalize (l[j]'hj) = p at *
    generalize l[i] = q at *
    simp only [inP, Bool.and_eq_true] at ip iq
    have n1 := na_0 hid
    have n2 := na_0 (show n < N by omega)
    have n3 : ∀ k, (id = N + k) = False := fun k => na_ne hid
    have n4 : ∀ k, (n = N + k) = False := fun k => na_ne (show n < N by omega)
    have vs := v_Side p.x p.y q.x q.y s.x s.y ip.1 ip.2 iq.1 iq.2 hs'.1 hs'.2
    rw [show cross p.x p.y q.x q.y s.x s.y = crossP p q s from rfl] at vs
    have w1' : IntKind.i64.wrap (w0 + 1) = w0 + 1 := wr_eq (by omega) (by omega)
    have w2' : IntKind.i64.wrap (w0 - 1) = w0 - 1 := wr_eq (by omega) (by omega)
    unfold edgeW at hw
    rw [hr1] at q9 q0
    try simp only [r38_0, r38_1, r38_2, r38_3, r38_4, r38_5, r38_6, r38_7, r38_8, r38_9, r38_10, r38_11, c38, F38, l38_0, q11, q10, q9, q0, q3, q5, c2, c3, c7, d1, d2, d3, d4, d5, d6, hrd, hrd', qs, rd_of qs, n1, n2, n3, n4, vs, w1', w2', sgW_pos, sgW_neg, lenO, Int.toNat_natCast, go_sem, Int.reduceTMod, Int.reduceTDiv, Int.reduceDiv, Int.reduceMod, Int.reduceAdd, Int.reduceSub, Int.reduceMul, Int.reduceNeg, Int.reducePow, Int.reduceEq, ↓reduceIte, Nat.reduceEqDiff, Nat.reduceAdd, Nat.reduceMul, Nat.reduceLeDiff, Nat.reduceSub, Nat.reduceLT, Int.reduceToNat, Int.reduceLT, Int.reduceLE, reduceCtorEq]
    repeat' ((first | refine FK_split (fun h_ => ?_) (fun h_ => ?_) | refine GK_split (fun h_ => ?_) (fun h_ => ?_) | refine ite_both (fun h_ => ?_) (fun h_ => ?_)) <;> (try simp only [decide_eq_true_eq, decide_eq_false_iff_not, Bool.not_true, Bool.not_false, Bool.not_eq_true', Bool.not_eq_false', Bool.not_eq_eq_eq_not, Decidable.not_not] at h_) <;> (try simp only [r38_0, r38_1, r38_2, r38_3, r38_4, r38_5, r38_6, r38_7, r38_8, r38_9, r38_10, r38_11, c38, F38, l38_0, q11, q10, q9, q0, q3, q5, c2, c3, c7, d1, d2, d3, d4, d5, d6, hrd, hrd', qs, rd_of qs, n1, n2, n3, n4, vs, w1', w2', sgW_pos, sgW_neg, lenO, Int.toNat_natCast, h_, go_sem, Int.reduceTMod, Int.reduceTDiv, Int.reduceDiv, Int.reduceMod, Int.reduceAdd, Int.reduceSub, Int.reduceMul, Int.reduceNeg, Int.reducePow, Int.reduceEq, ↓reduceIte, Nat.reduceEqDiff, Nat.reduceAdd, Nat.reduceMul, Nat.reduceLeDiff, Nat.reduceSub, Nat.reduceLT, Int.reduceToNat, Int.reduceLT, Int.reduceLE, reduceCtorEq]))
    all_goals
      refine next _ ⟨?_, ?_, ?_, ?_, ?_, ?_, ?_, fun id2 hid2 => ?_, ?_⟩
      · simp only [go_sem, Int.reduceTMod, Int.reduceTDiv, Int.reduceDiv, Int.reduceMod, Int.reduceAdd, Int.reduceSub, Int.reduceMul, Int.reduceNeg, Int.reducePow, Int.reduceEq, ↓reduceIte, Nat.reduceEqDiff, Nat.reduceAdd, Nat.reduceMul, Nat.reduceLeDiff, Nat.reduceSub, Nat.reduceLT, Int.reduceToNat, Int.reduceLT, Int.reduceLE, reduceCtorEq]
      · simp only [q10, go_sem, Int.reduceTMod, Int.reduceTDiv, Int.reduceDiv, Int.reduceMod, Int.reduceAdd, Int.reduceSub, Int.reduceMul, Int.reduceNeg, Int.reducePow, Int.reduceEq, ↓reduceIte, Nat.reduceEqDiff, Nat.reduceAdd, Nat.reduceMul, Nat.reduceLeDiff, Nat.reduceSub, Nat.reduceLT, Int.reduceToNat, Int.reduceLT, Int.reduceLE, reduceCtorEq]
      · simp only [q9, hr1, go_sem, Int.reduceTMod, Int.reduceTDiv, Int.reduceDiv, Int.reduceMod, Int.reduceAdd, Int.reduceSub, Int.reduceMul, Int.reduceNeg, Int.reducePow, Int.reduceEq, ↓reduceIte, Nat.reduceEqDiff, Nat.reduceAdd, Nat.reduceMul, Nat.reduceLeDiff, Nat.reduceSub, Nat.reduceLT, Int.reduceToNat, Int.reduceLT, Int.reduceLE, reduceCtorEq]
      · simp only [q0, hr1, go_sem, Int.reduceTMod, Int.reduceTDiv, Int.reduceDiv, Int.reduceMod, Int.reduceAdd, Int.reduceSub, Int.reduceMul, Int.reduceNeg, Int.reducePow, Int.reduceEq, ↓reduceIte, Nat.reduceEqDiff, Nat.reduceAdd, Nat.reduceMul, Nat.reduceLeDiff, Nat.reduceSub, Nat.reduceLT, Int.reduceToNat, Int.reduceLT, Int.reduceLE, reduceCtorEq]
      · simp only [q3, go_sem, Int.reduceTMod, Int.reduceTDiv, Int.reduceDiv, Int.reduceMod, Int.reduceAdd, Int.reduceSub, Int.reduceMul, Int.reduceNeg, Int.reducePow, Int.reduceEq, ↓reduceIte, Nat.reduceEqDiff, Nat.reduceAdd, Nat.reduceMul, Nat.reduceLeDiff, Nat.reduceSub, Nat.reduceLT, Int.reduceToNat, Int.reduceLT, Int.reduceLE, reduceCtorEq]
      · simp only [q5, go_sem, Int.reduceTMod, Int.reduceTDiv, Int.reduceDiv, Int.reduceMod, Int.reduceAdd, Int.reduceSub, Int.reduceMul, Int.reduceNeg, Int.reducePow, Int.reduceEq, ↓reduceIte, Nat.reduceEqDiff, Nat.reduceAdd, Nat.reduceMul, Nat.reduceLeDiff, Nat.reduceSub, Nat.reduceLT, Int.reduceToNat, Int.reduceLT, Int.reduceLE, reduceCtorEq]
        refine congrArg (fun x => Reg.one (Cell.sc (Value.int IntKind.i64 x))) ?_
        rw [hw]
        repeat' split
        all_goals omega
      · simp only [go_sem, Int.reduceTMod, Int.reduceTDiv, Int.reduceDiv, Int.reduceMod, Int.reduceAdd, Int.reduceSub, Int.reduceMul, Int.reduceNeg, Int.reducePow, Int.reduceEq, ↓reduceIte, Nat.reduceEqDiff, Nat.reduceAdd, Nat.reduceMul, Nat.reduceLeDiff, Nat.reduceSub, Nat.reduceLT, Int.reduceToNat, Int.reduceLT, Int.reduceLE, reduceCtorEq]
        omega
      · simp only [na_0 (show id2 < N by omega), na_ne (show id2 < N by omega), go_sem, Int.reduceTMod, Int.reduceTDiv, Int.reduceDiv, Int.reduceMod, Int.reduceAdd, Int.reduceSub, Int.reduceMul, Int.reduceNeg, Int.reducePow, Int.reduceEq, ↓reduceIte, Nat.reduceEqDiff, Nat.reduceAdd, Nat.reduceMul, Nat.reduceLeDiff, Nat.reduceSub, Nat.reduceLT, Int.reduceToNat, Int.reduceLT, Int.reduceLE, reduceCtorEq]
        exact qm id2 hid2
      · simp only [n2, n4, go_sem, Int.reduceTMod, Int.reduceTDiv, Int.reduceDiv, Int.reduceMod, Int.reduceAdd, Int.reduceSub, Int.reduceMul, Int.reduceNeg, Int.reducePow, Int.reduceEq, ↓reduceIte, Nat.reduceEqDiff, Nat.reduceAdd, Nat.reduceMul, Nat.reduceLeDiff, Nat.reduceSub, Nat.reduceLT, Int.reduceToNat, Int.reduceLT, Int.reduceLE, reduceCtorEq]
        exact qs
  · obtain ⟨e, M, N⟩ := t
    obtain ⟨q11, q10, q9, q0, q3, q5, qn, qm, qs⟩ := ht
    simp only at q11 q10 q9 q0 q3 q5 qn qm qs
    have c2 : ((l.length : Int) < (l.length : Int)) = False := eq_false (by omega)
    try simp only [r38_0, r38_1, r38_2, r38_3, r38_4, r38_5, r38_6, r38_7, r38_8, r38_9, r38_10, r38_11, c38, F38, l38_0, q11, q10, q5, c2, go_sem, Int.reduceTMod, Int.reduceTDiv, Int.reduceDiv, Int.reduceMod, Int.reduceAdd, Int.reduceSub, Int.reduceMul, Int.reduceNeg, Int.reducePow, Int.reduceEq, ↓reduceIte, Nat.reduceEqDiff, Nat.reduceAdd, Nat.reduceMul, Nat.reduceLeDiff, Nat.reduceSub, Nat.reduceLT, Int.reduceToNat, Int.reduceLT, Int.reduceLE, reduceCtorEq]
    repeat' ((first | refine FK_split (fun h_ => ?_) (fun h_ => ?_) | refine GK_split (fun h_ => ?_) (fun h_ => ?_) | refine ite_both (fun h_ => ?_) (fun h_ => ?_)) <;> (try simp only [decide_eq_true_eq, decide_eq_false_iff_not, Bool.not_true, Bool.not_false, Bool.not_eq_true', Bool.not_eq_false', Bool.not_eq_eq_eq_not, Decidable.not_not] at h_) <;> (try simp only [r38_0, r38_1, r38_2, r38_3, r38_4, r38_5, r38_6, r38_7, r38_8, r38_9, r38_10, r38_11, c38, F38, l38_0, q11, q10, q5, c2, h_, go_sem, Int.reduceTMod, Int.reduceTDiv, Int.reduceDiv, Int.reduceMod, Int.reduceAdd, Int.reduceSub, Int.reduceMul, Int.reduceNeg, Int.reducePow, Int.reduceEq, ↓reduceIte, Nat.reduceEqDiff, Nat.reduceAdd, Nat.reduceMul, Nat.reduceLeDiff, Nat.reduceSub, Nat.reduceLT, Int.reduceToNat, Int.reduceLT, Int.reduceLE, reduceCtorEq]))
  · simp only [go_sem, Int.reduceTMod, Int.reduceTDiv, Int.reduceDiv, Int.reduceMod, Int.reduceAdd, Int.reduceSub, Int.reduceMul, Int.reduceNeg, Int.reducePow, Int.reduceEq, ↓reduceIte, Nat.reduceEqDiff, Nat.reduceAdd, Nat.reduceMul, Nat.reduceLeDiff, Nat.reduceSub, Nat.reduceLT, Int.reduceToNat, Int.reduceLT, Int.reduceLE, reduceCtorEq]
  · simp only [go_sem, Int.reduceTMod, Int.reduceTDiv, Int.reduceDiv, Int.reduceMod, Int.reduceAdd, Int.reduceSub, Int.reduceMul, Int.reduceNeg, Int.reducePow, Int.reduceEq, ↓reduceIte, Nat.reduceEqDiff, Nat.reduceAdd, Nat.reduceMul, Nat.reduceLeDiff, Nat.reduceSub, Nat.reduceLT, Int.reduceToNat, Int.reduceLT, Int.reduceLE, reduceCtorEq]
  · simp only [go_sem, Int.reduceTMod, Int.reduceTDiv, Int.reduceDiv, Int.reduceMod, Int.reduceAdd, Int.reduceSub, Int.reduceMul, Int.reduceNeg, Int.reducePow, Int.reduceEq, ↓reduceIte, Nat.reduceEqDiff, Nat.reduceAdd, Nat.reduceMul, Nat.reduceLeDiff, Nat.reduceSub, Nat.reduceLT, Int.reduceToNat, Int.reduceLT, Int.reduceLE, reduceCtorEq]
  · simp only [go_sem, Int.reduceTMod, Int.reduceTDiv, Int.reduceDiv, Int.reduceMod, Int.reduceAdd, Int.reduceSub, Int.reduceMul, Int.reduceNeg, Int.reducePow, Int.reduceEq, ↓reduceIte, Nat.reduceEqDiff, Nat.reduceAdd, Nat.reduceMul, Nat.reduceLeDiff, Nat.reduceSub, Nat.reduceLT, Int.reduceToNat, Int.reduceLT, Int.reduceLE, reduceCtorEq]
  · simp only [go_sem, Int.reduceTMod, Int.reduceTDiv, Int.reduceDiv, Int.reduceMod, Int.reduceAdd, Int.reduceSub, Int.reduceMul, Int.reduceNeg, Int.reducePow, Int.reduceEq, ↓reduceIte, Nat.reduceEqDiff, Nat.reduceAdd, Nat.reduceMul, Nat.reduceLeDiff, Nat.reduceSub, Nat.reduceLT, Int.reduceToNat, Int.reduceLT, Int.reduceLE, reduceCtorEq]
  · simp only [windsTo, go_sem, Int.reduceTMod, Int.reduceTDiv, Int.reduceDiv, Int.reduceMod, Int.reduceAdd, Int.reduceSub, Int.reduceMul, Int.reduceNeg, Int.reducePow, Int.reduceEq, ↓reduceIte, Nat.reduceEqDiff, Nat.reduceAdd, Nat.reduceMul, Nat.reduceLeDiff, Nat.reduceSub, Nat.reduceLT, Int.reduceToNat, Int.reduceLT, Int.reduceLE, reduceCtorEq]
  · simp only [go_sem, Int.reduceTMod, Int.reduceTDiv, Int.reduceDiv, Int.reduceMod, Int.reduceAdd, Int.reduceSub, Int.reduceMul, Int.reduceNeg, Int.reducePow, Int.reduceEq, ↓reduceIte, Nat.reduceEqDiff, Nat.reduceAdd, Nat.reduceMul, Nat.reduceLeDiff, Nat.reduceSub, Nat.reduceLT, Int.reduceToNat, Int.reduceLT, Int.reduceLE, reduceCtorEq]
    omega
  · simp only [na_0 hid, na_ne hid, go_sem, Int.reduceTMod, Int.reduceTDiv, Int.reduceDiv, Int.reduceMod, Int.reduceAdd, Int.reduceSub, Int.reduceMul, Int.reduceNeg, Int.reducePow, Int.reduceEq, ↓reduceIte, Nat.reduceEqDiff, Nat.reduceAdd, Nat.reduceMul, Nat.reduceLeDiff, Nat.reduceSub, Nat.reduceLT, Int.reduceToNat, Int.reduceLT, Int.reduceLE, reduceCtorEq]
  · simp only [go_sem, Int.reduceTMod, Int.reduceTDiv, Int.reduceDiv, Int.reduceMod, Int.reduceAdd, Int.reduceSub, Int.reduceMul, Int.reduceNeg, Int.reducePow, Int.reduceEq, ↓reduceIte, Nat.reduceEqDiff, Nat.reduceAdd, Nat.reduceMul, Nat.reduceLeDiff, Nat.reduceSub, Nat.reduceLT, Int.reduceToNat, Int.reduceLT, Int.reduceLE, reduceCtorEq]
/-- A row of points, or one without room. -/
def RPe (m : Mem) (n : Nat) (r : Reg) (l : List Pt) : Prop := RPt m n r l ∨ ∃ a, r = .one (.sc (.slice a 0 0)) ∧ l = []
theorem RPe.len {m : Mem} {n : Nat} {r : Reg} {l : List Pt} (h : RPe m n r l) : lenO r = some (l.length : Int) := by
  rcases h with h | ⟨a, rfl, rfl⟩
  · exact h.len
  · rfl
theorem RPe.keep {m m' : Mem} {n n' : Nat} {r : Reg} {l : List Pt} (h : RPe m n r l) (hn : n ≤ n') (hm : ∀ id, id < n → m' id = m id) : RPe m' n' r l := by
  rcases h with h | h
  · exact Or.inl (h.keep hn hm)
  · exact Or.inr h
theorem RPe.frz {m : Mem} {n : Nat} {r : Reg} {l : List Pt} (h : RPe m n r l) : RPe (frz m) n r l := by
  rcases h with h | h
  · exact Or.inl (RL.frz h)
  · exact Or.inr h
theorem v_WindsE (r : Reg) (l : List Pt) (s : Pt) (m : Mem) (n : Nat) (hr : RPe m n r l) (hl : l.length < 1000000) (hi : l.all inP = true) (hs : inP s = true) : callF TA 38 [r, .agg [I s.x, I s.y]] m n = some (RI (windsTo l s l.length)) := by
  rcases hr with hr | ⟨a, rfl, rfl⟩
  · exact v_Winds r l s m n hr hl hi hs
  · refine callF_of (Fn_ofK (fn := F38) rfl (by simp [F38]) ?_)
    have z : ((0 : Int) < 0) = False := eq_false (by decide)
    try simp only [r38_0, r38_1, r38_2, r38_3, r38_4, r38_5, r38_6, r38_7, r38_8, r38_9, r38_10, r38_11, c38, F38, l38_0, XK_loop, lenO_none, z, windsTo, go_sem, Int.reduceTMod, Int.reduceTDiv, Int.reduceDiv, Int.reduceMod, Int.reduceAdd, Int.reduceSub, Int.reduceMul, Int.reduceNeg, Int.reducePow, Int.reduceEq, ↓reduceIte, Nat.reduceEqDiff, Nat.reduceAdd, Nat.reduceMul, Nat.reduceLeDiff, Nat.reduceSub, Nat.reduceLT, Int.reduceToNat, Int.reduceLT, Int.reduceLE, reduceCtorEq]
    repeat' ((first | refine FK_split (fun h_ => ?_) (fun h_ => ?_) | refine GK_split (fun h_ => ?_) (fun h_ => ?_) | refine ite_both (fun h_ => ?_) (fun h_ => ?_)) <;> (try simp only [decide_eq_true_eq, decide_eq_false_iff_not, Bool.not_true, Bool.not_false, Bool.not_eq_true', Bool.not_eq_false', Bool.not_eq_eq_eq_not, Decidable.not_not] at h_) <;> (try simp only [r38_0, r38_1, r38_2, r38_3, r38_4, r38_5, r38_6, r38_7, r38_8, r38_9, r38_10, r38_11, c38, F38, l38_0, XK_loop, lenO_none, z, windsTo, h_, go_sem, Int.reduceTMod, Int.reduceTDiv, Int.reduceDiv, Int.reduceMod, Int.reduceAdd, Int.reduceSub, Int.reduceMul, Int.reduceNeg, Int.reducePow, Int.reduceEq, ↓reduceIte, Nat.reduceEqDiff, Nat.reduceAdd, Nat.reduceMul, Nat.reduceLeDiff, Nat.reduceSub, Nat.reduceLT, Int.reduceToNat, Int.reduceLT, Int.reduceLE, reduceCtorEq]))

/- How often a closed line goes round a place, walked: the reference's. Conditions: those that each theorem names. -/
open Go Go.Proofs
set_option linter.unusedSimpArgs false
set_option linter.unusedVariables false

def eT (l : List Pt) (s : Pt) (i j : Nat) : Int := match l[i]?, l[j]? with | some p, some q => edgeW p q s | _, _ => 0
theorem windsTo_s (l : List Pt) (s : Pt) (i : Nat) : windsTo l s (i + 1) = windsTo l s i + eT l s ((i + l.length - 1) % l.length) i := rfl
theorem eT_bd (l : List Pt) (s : Pt) (i j : Nat) : -1 ≤ eT l s i j ∧ eT l s i j ≤ 1 := by
  unfold eT
  split
  · unfold edgeW; split <;> (try split) <;> omega
  · omega
/-- The edges from the places below i. -/
def refTo (l : List Pt) (s : Pt) : Nat → Int
  | 0 => 0
  | i + 1 => refTo l s i + eT l s i (if i + 1 < l.length then i + 1 else 0)
def linTo (l : List Pt) (s : Pt) : Nat → Int
  | 0 => 0
  | i + 1 => linTo l s i + eT l s i (i + 1)
theorem refTo_lin (l : List Pt) (s : Pt) : ∀ k, k + 1 ≤ l.length → refTo l s k = linTo l s k
  | 0, _ => rfl
  | k + 1, h => by
    simp only [refTo, linTo]
    rw [refTo_lin l s k (by omega), if_pos (by omega)]
theorem windsTo_lin (l : List Pt) (s : Pt) : ∀ k, k + 1 ≤ l.length → windsTo l s (k + 1) = eT l s (l.length - 1) 0 + linTo l s k
  | 0, h => by
    rw [windsTo_s, Nat.zero_add, Nat.mod_eq_of_lt (by omega)]
    simp only [windsTo, linTo, Int.add_zero, Int.zero_add]
  | k + 1, h => by
    rw [windsTo_s, windsTo_lin l s k (by omega), linTo]
    have e : (k + 1 + l.length - 1) % l.length = k := by
      rw [show k + 1 + l.length - 1 = k + l.length by omega, Nat.add_mod_right]
      exact Nat.mod_eq_of_lt (by omega)
    rw [e]
    omega
theorem winds_ref (l : List Pt) (s : Pt) : refTo l s l.length = windsTo l s l.length := by
  cases hl : l.length with
  | zero => rfl
  | succ k =>
    rw [windsTo_lin l s k (by omega), refTo, refTo_lin l s k (by omega), if_neg (by omega)]
    rw [show l.length - 1 = k by omega]
    omega
theorem ref_bd (l : List Pt) (s : Pt) : ∀ i : Nat, -(i : Int) ≤ refTo l s i ∧ refTo l s i ≤ i
  | 0 => by simp [refTo]
  | i + 1 => by
    have h := ref_bd l s i
    have he := eT_bd l s i (if i + 1 < l.length then i + 1 else 0)
    rw [refTo]
    omega
theorem v_rWinds (r : Reg) (l : List Pt) (s : Pt) (m : Mem) (n : Nat) (hr : RPt m n r l) (hl : l.length < 1000000) (hi : l.all inP = true) (hs : inP s = true) : callF TA 39 [r, .agg [I s.x, I s.y]] m n = some (RI (windsTo l s l.length)) := by
  rw [← winds_ref]
  refine callF_of (Fn_ofK (fn := F39) rfl (by simp [F39]) ?_)
  have hlen := hr.len
  have hs' : inP ⟨s.x, s.y⟩ = true := hs
  simp only [inP, Bool.and_eq_true] at hs'
  try simp only [r39_0, r39_1, r39_2, r39_3, r39_5, r39_6, r39_7, r39_8, r39_9, r39_10, r39_11, r39_4, r39_12, c39, F39, go_sem, Int.reduceTMod, Int.reduceTDiv, Int.reduceDiv, Int.reduceMod, Int.reduceAdd, Int.reduceSub, Int.reduceMul, Int.reduceNeg, Int.reducePow, Int.reduceEq, ↓reduceIte, Nat.reduceEqDiff, Nat.reduceAdd, Nat.reduceMul, Nat.reduceLeDiff, Nat.reduceSub, Nat.reduceLT, Int.reduceToNat, Int.reduceLT, Int.reduceLE, reduceCtorEq]
  repeat' ((first | refine FK_split (fun h_ => ?_) (fun h_ => ?_) | refine GK_split (fun h_ => ?_) (fun h_ => ?_) | refine ite_both (fun h_ => ?_) (fun h_ => ?_)) <;> (try simp only [decide_eq_true_eq, decide_eq_false_iff_not, Bool.not_true, Bool.not_false, Bool.not_eq_true', Bool.not_eq_false', Bool.not_eq_eq_eq_not, Decidable.not_not] at h_) <;> (try simp only [r39_0, r39_1, r39_2, r39_3, r39_5, r39_6, r39_7, r39_8, r39_9, r39_10, r39_11, r39_4, r39_12, c39, F39, h_, go_sem, Int.reduceTMod, Int.reduceTDiv, Int.reduceDiv, Int.reduceMod, Int.reduceAdd, Int.reduceSub, Int.reduceMul, Int.reduceNeg, Int.reducePow, Int.reduceEq, ↓reduceIte, Nat.reduceEqDiff, Nat.reduceAdd, Nat.reduceMul, Nat.reduceLeDiff, Nat.reduceSub, Nat.reduceLT, Int.reduceToNat, Int.reduceLT, Int.reduceLE, reduceCtorEq]))
  refine XK_iter (inv := fun i t => t.e 6 = RI i ∧ t.e 0 = r ∧ t.e 3 = .one (.ptr n 0) ∧ t.e 5 = RI (refTo l s i) ∧ n + 1 ≤ t.n ∧ (∀ id, id < n → t.m id = m id) ∧ t.m n = some ⟨[I s.x, I s.y], true⟩) l.length
    (fun L _ => ⟨fun i hi' t ht next => ?_, fun t ht => ?_⟩) 0 (by omega) _ ⟨?_, ?_, ?_, ?_, ?_, fun id hid => ?_, ?_⟩
  · obtain ⟨e, M, N⟩ := t
    obtain ⟨q6, q0, q3, q5, qn, qm, qs⟩ := ht
    simp only at q6 q0 q3 q5 qn qm qs
    have hr2 : RPt M N r l := hr.keep (by omega) qm
    have hp : l[i]? = some l[i] := List.getElem?_eq_getElem hi'
    have hz : l[0]? = some (l[0]'(by omega)) := List.getElem?_eq_getElem (by omega)
    obtain ⟨id, off, cap, hr1, hid, hrd⟩ := hr2.at cs2 hp
    obtain ⟨id', off', cap', hr1', _, hrz⟩ := hr2.at cs2 hz
    rw [hr1] at hr1'
    simp only [Reg.one.injEq, Cell.sl.injEq, true_and] at hr1'
    obtain ⟨rfl, rfl, rfl, _⟩ := hr1'
    rw [Nat.zero_mul, Nat.add_zero] at hrz
    obtain ⟨bb, hbb, _⟩ := rd_cell hrd (a := 0) (c := I l[i].x) rfl
    have ip : inP ⟨l[i].x, l[i].y⟩ = true := List.all_eq_true.1 hi _ (List.getElem_mem hi')
    have c1 : ((0 : Int) < (l.length : Int)) = True := eq_true (by omega)
    have c2 : ((i : Int) < (l.length : Int)) = True := eq_true (by omega)
    have c3 : (0 ≤ (i : Int)) = True := eq_true (by omega)
    have c7 : IntKind.i64.wrap ((i : Int) + 1) = ((i + 1 : Nat) : Int) := wr_nat (by omega)
    have c8 : (0 ≤ ((i + 1 : Nat) : Int)) = True := eq_true (by omega)
    have hb := ref_bd l s i
    have n1 := na_0 hid
    have n2 := na_0 (show n < N by omega)
    have n3 : ∀ k, (id = N + k) = False := fun k => na_ne hid
    have n4 : ∀ k, (n = N + k) = False := fun k => na_ne (show n < N by omega)
    have w1' : IntKind.i64.wrap (refTo l s i + 1) = refTo l s i + 1 := wr_eq (by omega) (by omega)
    have w2' : IntKind.i64.wrap (refTo l s i - 1) = refTo l s i - 1 := wr_eq (by omega) (by omega)
    rw [hr1] at q0
    have hlen' : lenO (.one (.sl id off l.length cap 2)) = some (l.length : Int) := rfl
    -- the next point
    obtain ⟨q, hq, hw⟩ : ∃ q, l[if i + 1 < l.length then i + 1 else 0]? = some q ∧ refTo l s (i + 1) = refTo l s i + edgeW l[i] q s := by
      have hlt : (if i + 1 < l.length then i + 1 else 0) < l.length := by split <;> omega
      refine ⟨_, List.getElem?_eq_getElem hlt, ?_⟩
      rw [refTo, eT, hp, List.getElem?_eq_getElem hlt]
    have iq : inP ⟨q.x, q.y⟩ = true := List.all_eq_true.1 hi _ (List.mem_of_getElem? hq)
    have vs := v_rSide l[i].x l[i].y q.x q.y s.x s.y (by simp only [inP, Bool.and_eq_true] at ip; exact ip.1) (by simp only [inP, Bool.and_eq_true] at ip; exact ip.2) (by simp only [inP, Bool.and_eq_true] at iq; exact iq.1) (by simp only [inP, Bool.and_eq_true] at iq; exact iq.2) hs'.1 hs'.2
    rw [show cross l[i].x l[i].y q.x q.y s.x s.y = crossP l[i] q s from rfl] at vs
    generalize refTo l s (i + 1) = w1 at *
    generalize refTo l s i = w0 at *
    generalize (l[0]'(by omega)) = z at *
    generalize l[i] = p at *
    unfold edgeW at hw
    by_cases hc : i + 1 < l.length
    · have c9 : (((i + 1 : Nat) : Int) < (l.length : Int)) = True := eq_true (by omega)
      rw [if_pos hc] at hq
      obtain ⟨id', off', cap', hr1', _, hrq⟩ := hr2.at cs2 hq
      rw [hr1] at hr1'
      simp only [Reg.one.injEq, Cell.sl.injEq, true_and] at hr1'
      obtain ⟨rfl, rfl, rfl, _⟩ := hr1'
      try simp only [r39_0, r39_1, r39_2, r39_3, r39_5, r39_6, r39_7, r39_8, r39_9, r39_10, r39_11, r39_4, r39_12, c39, F39, l39_0, XK_ureg, q6, q0, q3, q5, c1, c2, c3, c7, c8, c9, hlen', hrd, hrz, hrq, hbb, qs, rd_of qs, n1, n2, n3, n4, vs, w1', w2', sgW_pos, sgW_neg, Int.toNat_natCast, Int.toNat_zero, Nat.zero_mul, Nat.add_zero, go_sem, Int.reduceTMod, Int.reduceTDiv, Int.reduceDiv, Int.reduceMod, Int.reduceAdd, Int.reduceSub, Int.reduceMul, Int.reduceNeg, Int.reducePow, Int.reduceEq, ↓reduceIte, Nat.reduceEqDiff, Nat.reduceAdd, Nat.reduceMul, Nat.reduceLeDiff, Nat.reduceSub, Nat.reduceLT, Int.reduceToNat, Int.reduceLT, Int.reduceLE, reduceCtorEq]
      repeat' ((first | refine FK_split (fun h_ => ?_) (fun h_ => ?_) | refine GK_split (fun h_ => ?_) (fun h_ => ?_) | refine ite_both (fun h_ => ?_) (fun h_ => ?_)) <;> (try simp only [decide_eq_true_eq, decide_eq_false_iff_not, Bool.not_true, Bool.not_false, Bool.not_eq_true', Bool.not_eq_false', Bool.not_eq_eq_eq_not, Decidable.not_not] at h_) <;> (try simp only [r39_0, r39_1, r39_2, r39_3, r39_5, r39_6, r39_7, r39_8, r39_9, r39_10, r39_11, r39_4, r39_12, c39, F39, l39_0, XK_ureg, q6, q0, q3, q5, c1, c2, c3, c7, c8, c9, hlen', hrd, hrz, hrq, hbb, qs, rd_of qs, n1, n2, n3, n4, vs, w1', w2', sgW_pos, sgW_neg, Int.toNat_natCast, Int.toNat_zero, Nat.zero_mul, Nat.add_zero, h_, go_sem, Int.reduceTMod, Int.reduceTDiv, Int.reduceDiv, Int.reduceMod, Int.reduceAdd, Int.reduceSub, Int.reduceMul, Int.reduceNeg, Int.reducePow, Int.reduceEq, ↓reduceIte, Nat.reduceEqDiff, Nat.reduceAdd, Nat.reduceMul, Nat.reduceLeDiff, Nat.reduceSub, Nat.reduceLT, Int.reduceToNat, Int.reduceLT, Int.reduceLE, reduceCtorEq]))
      all_goals
        refine next _ ⟨?_, ?_, ?_, ?_, ?_, fun id2 hid2 => ?_, ?_⟩
        · simp only [go_sem, Int.reduceTMod, Int.reduceTDiv, Int.reduceDiv, Int.reduceMod, Int.reduceAdd, Int.reduceSub, Int.reduceMul, Int.reduceNeg, Int.reducePow, Int.reduceEq, ↓reduceIte, Nat.reduceEqDiff, Nat.reduceAdd, Nat.reduceMul, Nat.reduceLeDiff, Nat.reduceSub, Nat.reduceLT, Int.reduceToNat, Int.reduceLT, Int.reduceLE, reduceCtorEq]
        · simp only [q0, hr1, go_sem, Int.reduceTMod, Int.reduceTDiv, Int.reduceDiv, Int.reduceMod, Int.reduceAdd, Int.reduceSub, Int.reduceMul, Int.reduceNeg, Int.reducePow, Int.reduceEq, ↓reduceIte, Nat.reduceEqDiff, Nat.reduceAdd, Nat.reduceMul, Nat.reduceLeDiff, Nat.reduceSub, Nat.reduceLT, Int.reduceToNat, Int.reduceLT, Int.reduceLE, reduceCtorEq]
        · simp only [q3, go_sem, Int.reduceTMod, Int.reduceTDiv, Int.reduceDiv, Int.reduceMod, Int.reduceAdd, Int.reduceSub, Int.reduceMul, Int.reduceNeg, Int.reducePow, Int.reduceEq, ↓reduceIte, Nat.reduceEqDiff, Nat.reduceAdd, Nat.reduceMul, Nat.reduceLeDiff, Nat.reduceSub, Nat.reduceLT, Int.reduceToNat, Int.reduceLT, Int.reduceLE, reduceCtorEq]
        · simp only [q5, go_sem, Int.reduceTMod, Int.reduceTDiv, Int.reduceDiv, Int.reduceMod, Int.reduceAdd, Int.reduceSub, Int.reduceMul, Int.reduceNeg, Int.reducePow, Int.reduceEq, ↓reduceIte, Nat.reduceEqDiff, Nat.reduceAdd, Nat.reduceMul, Nat.reduceLeDiff, Nat.reduceSub, Nat.reduceLT, Int.reduceToNat, Int.reduceLT, Int.reduceLE, reduceCtorEq]
          refine congrArg (fun x => Reg.one (Cell.sc (Value.int IntKind.i64 x))) ?_
          rw [hw]
          repeat' split
          all_goals omega
        · simp only [go_sem, Int.reduceTMod, Int.reduceTDiv, Int.reduceDiv, Int.reduceMod, Int.reduceAdd, Int.reduceSub, Int.reduceMul, Int.reduceNeg, Int.reducePow, Int.reduceEq, ↓reduceIte, Nat.reduceEqDiff, Nat.reduceAdd, Nat.reduceMul, Nat.reduceLeDiff, Nat.reduceSub, Nat.reduceLT, Int.reduceToNat, Int.reduceLT, Int.reduceLE, reduceCtorEq]
          omega
        · simp only [na_0 (show id2 < N by omega), na_ne (show id2 < N by omega), go_sem, Int.reduceTMod, Int.reduceTDiv, Int.reduceDiv, Int.reduceMod, Int.reduceAdd, Int.reduceSub, Int.reduceMul, Int.reduceNeg, Int.reducePow, Int.reduceEq, ↓reduceIte, Nat.reduceEqDiff, Nat.reduceAdd, Nat.reduceMul, Nat.reduceLeDiff, Nat.reduceSub, Nat.reduceLT, Int.reduceToNat, Int.reduceLT, Int.reduceLE, reduceCtorEq]
          exact qm id2 hid2
        · simp only [n2, n4, go_sem, Int.reduceTMod, Int.reduceTDiv, Int.reduceDiv, Int.reduceMod, Int.reduceAdd, Int.reduceSub, Int.reduceMul, Int.reduceNeg, Int.reducePow, Int.reduceEq, ↓reduceIte, Nat.reduceEqDiff, Nat.reduceAdd, Nat.reduceMul, Nat.reduceLeDiff, Nat.reduceSub, Nat.reduceLT, Int.reduceToNat, Int.reduceLT, Int.reduceLE, reduceCtorEq]
          exact qs
    · have c9 : (((i + 1 : Nat) : Int) < (l.length : Int)) = False := eq_false (by omega)
      rw [if_neg hc] at hq
      obtain rfl : z = q := by rw [hz] at hq; exact Option.some.inj hq
      try simp only [r39_0, r39_1, r39_2, r39_3, r39_5, r39_6, r39_7, r39_8, r39_9, r39_10, r39_11, r39_4, r39_12, c39, F39, l39_0, XK_ureg, q6, q0, q3, q5, c1, c2, c3, c7, c8, c9, hlen', hrd, hrz, hbb, qs, rd_of qs, n1, n2, n3, n4, vs, w1', w2', sgW_pos, sgW_neg, Int.toNat_natCast, Int.toNat_zero, Nat.zero_mul, Nat.add_zero, go_sem, Int.reduceTMod, Int.reduceTDiv, Int.reduceDiv, Int.reduceMod, Int.reduceAdd, Int.reduceSub, Int.reduceMul, Int.reduceNeg, Int.reducePow, Int.reduceEq, ↓reduceIte, Nat.reduceEqDiff, Nat.reduceAdd, Nat.reduceMul, Nat.reduceLeDiff, Nat.reduceSub, Nat.reduceLT, Int.reduceToNat, Int.reduceLT, Int.reduceLE, reduceCtorEq]
      repeat' ((first | refine FK_split (fun h_ => ?_) (fun h_ => ?_) | refine GK_split (fun h_ => ?_) (fun h_ => ?_) | refine ite_both (fun h_ => ?_) (fun h_ => ?_)) <;> (try simp only [decide_eq_true_eq, decide_eq_false_iff_not, Bool.not_true, Bool.not_false, Bool.not_eq_true', Bool.not_eq_false', Bool.not_eq_eq_eq_not, Decidable.not_not] at h_) <;> (try simp only [r39_0, r39_1, r39_2, r39_3, r39_5, r39_6, r39_7, r39_8, r39_9, r39_10, r39_11, r39_4, r39_12, c39, F39, l39_0, XK_ureg, q6, q0, q3, q5, c1, c2, c3, c7, c8, c9, hlen', hrd, hrz, hbb, qs, rd_of qs, n1, n2, n3, n4, vs, w1', w2', sgW_pos, sgW_neg, Int.toNat_natCast, Int.toNat_zero, Nat.zero_mul, Nat.add_zero, h_, go_sem, Int.reduceTMod, Int.reduceTDiv, Int.reduceDiv, Int.reduceMod, Int.reduceAdd, Int.reduceSub, Int.reduceMul, Int.reduceNeg, Int.reducePow, Int.reduceEq, ↓reduceIte, Nat.reduceEqDiff, Nat.reduceAdd, Nat.reduceMul, Nat.reduceLeDiff, Nat.reduceSub, Nat.reduceLT, Int.reduceToNat, Int.reduceLT, Int.reduceLE, reduceCtorEq]))
      all_goals
        refine next _ ⟨?_, ?_, ?_, ?_, ?_, fun id2 hid2 => ?_, ?_⟩
        · simp only [go_sem, Int.reduceTMod, Int.reduceTDiv, Int.reduceDiv, Int.reduceMod, Int.reduceAdd, Int.reduceSub, Int.reduceMul, Int.reduceNeg, Int.reducePow, Int.reduceEq, ↓reduceIte, Nat.reduceEqDiff, Nat.reduceAdd, Nat.reduceMul, Nat.reduceLeDiff, Nat.reduceSub, Nat.reduceLT, Int.reduceToNat, Int.reduceLT, Int.reduceLE, reduceCtorEq]
        · simp only [q0, hr1, go_sem, Int.reduceTMod, Int.reduceTDiv, Int.reduceDiv, Int.reduceMod, Int.reduceAdd, Int.reduceSub, Int.reduceMul, Int.reduceNeg, Int.reducePow, Int.reduceEq, ↓reduceIte, Nat.reduceEqDiff, Nat.reduceAdd, Nat.reduceMul, Nat.reduceLeDiff, Nat.reduceSub, Nat.reduceLT, Int.reduceToNat, Int.reduceLT, Int.reduceLE, reduceCtorEq]
        · simp only [q3, go_sem, Int.reduceTMod, Int.reduceTDiv, Int.reduceDiv, Int.reduceMod, Int.reduceAdd, Int.reduceSub, Int.reduceMul, Int.reduceNeg, Int.reducePow, Int.reduceEq, ↓reduceIte, Nat.reduceEqDiff, Nat.reduceAdd, Nat.reduceMul, Nat.reduceLeDiff, Nat.reduceSub, Nat.reduceLT, Int.reduceToNat, Int.reduceLT, Int.reduceLE, reduceCtorEq]
        · simp only [q5, go_sem, Int.reduceTMod, Int.reduceTDiv, Int.reduceDiv, Int.reduceMod, Int.reduceAdd, Int.reduceSub, Int.reduceMul, Int.reduceNeg, Int.reducePow, Int.reduceEq, ↓reduceIte, Nat.reduceEqDiff, Nat.reduceAdd, Nat.reduceMul, Nat.reduceLeDiff, Nat.reduceSub, Nat.reduceLT, Int.reduceToNat, Int.reduceLT, Int.reduceLE, reduceCtorEq]
          refine congrArg (fun x => Reg.one (Cell.sc (Value.int IntKind.i64 x))) ?_
          rw [hw]
          repeat' split
          all_goals omega
        · simp only [go_sem, Int.reduceTMod, Int.reduceTDiv, Int.reduceDiv, Int.reduceMod, Int.reduceAdd, Int.reduceSub, Int.reduceMul, Int.reduceNeg, Int.reducePow, Int.reduceEq, ↓reduceIte, Nat.reduceEqDiff, Nat.reduceAdd, Nat.reduceMul, Nat.reduceLeDiff, Nat.reduceSub, Nat.reduceLT, Int.reduceToNat, Int.reduceLT, Int.reduceLE, reduceCtorEq]
          omega
        · simp only [na_0 (show id2 < N by omega), na_ne (show id2 < N by omega), go_sem, Int.reduceTMod, Int.reduceTDiv, Int.reduceDiv, Int.reduceMod, Int.reduceAdd, Int.reduceSub, Int.reduceMul, Int.reduceNeg, Int.reducePow, Int.reduceEq, ↓reduceIte, Nat.reduceEqDiff, Nat.reduceAdd, Nat.reduceMul, Nat.reduceLeDiff, Nat.reduceSub, Nat.reduceLT, Int.reduceToNat, Int.reduceLT, Int.reduceLE, reduceCtorEq]
          exact qm id2 hid2
        · simp only [n2, n4, go_sem, Int.reduceTMod, Int.reduceTDiv, Int.reduceDiv, Int.reduceMod, Int.reduceAdd, Int.reduceSub, Int.reduceMul, Int.reduceNeg, Int.reducePow, Int.reduceEq, ↓reduceIte, Nat.reduceEqDiff, Nat.reduceAdd, Nat.reduceMul, Nat.reduceLeDiff, Nat.reduceSub, Nat.reduceLT, Int.reduceToNat, Int.reduceLT, Int.reduceLE, reduceCtorEq]
          exact qs
  · obtain ⟨e, M, N⟩ := t
    obtain ⟨q6, q0, q3, q5, qn, qm, qs⟩ := ht
    simp only at q6 q0 q3 q5 qn qm qs
    have c2 : ((l.length : Int) < (l.length : Int)) = False := eq_false (by omega)
    try simp only [r39_0, r39_1, r39_2, r39_3, r39_5, r39_6, r39_7, r39_8, r39_9, r39_10, r39_11, r39_4, r39_12, c39, F39, l39_0, q6, q0, q5, hlen, c2, go_sem, Int.reduceTMod, Int.reduceTDiv, Int.reduceDiv, Int.reduceMod, Int.reduceAdd, Int.reduceSub, Int.reduceMul, Int.reduceNeg, Int.reducePow, Int.reduceEq, ↓reduceIte, Nat.reduceEqDiff, Nat.reduceAdd, Nat.reduceMul, Nat.reduceLeDiff, Nat.reduceSub, Nat.reduceLT, Int.reduceToNat, Int.reduceLT, Int.reduceLE, reduceCtorEq]
    repeat' ((first | refine FK_split (fun h_ => ?_) (fun h_ => ?_) | refine GK_split (fun h_ => ?_) (fun h_ => ?_) | refine ite_both (fun h_ => ?_) (fun h_ => ?_)) <;> (try simp only [decide_eq_true_eq, decide_eq_false_iff_not, Bool.not_true, Bool.not_false, Bool.not_eq_true', Bool.not_eq_false', Bool.not_eq_eq_eq_not, Decidable.not_not] at h_) <;> (try simp only [r39_0, r39_1, r39_2, r39_3, r39_5, r39_6, r39_7, r39_8, r39_9, r39_10, r39_11, r39_4, r39_12, c39, F39, l39_0, q6, q0, q5, hlen, c2, h_, go_sem, Int.reduceTMod, Int.reduceTDiv, Int.reduceDiv, Int.reduceMod, Int.reduceAdd, Int.reduceSub, Int.reduceMul, Int.reduceNeg, Int.reducePow, Int.reduceEq, ↓reduceIte, Nat.reduceEqDiff, Nat.reduceAdd, Nat.reduceMul, Nat.reduceLeDiff, Nat.reduceSub, Nat.reduceLT, Int.reduceToNat, Int.reduceLT, Int.reduceLE, reduceCtorEq]))
  · simp only [go_sem, Int.reduceTMod, Int.reduceTDiv, Int.reduceDiv, Int.reduceMod, Int.reduceAdd, Int.reduceSub, Int.reduceMul, Int.reduceNeg, Int.reducePow, Int.reduceEq, ↓reduceIte, Nat.reduceEqDiff, Nat.reduceAdd, Nat.reduceMul, Nat.reduceLeDiff, Nat.reduceSub, Nat.reduceLT, Int.reduceToNat, Int.reduceLT, Int.reduceLE, reduceCtorEq]
  · simp only [go_sem, Int.reduceTMod, Int.reduceTDiv, Int.reduceDiv, Int.reduceMod, Int.reduceAdd, Int.reduceSub, Int.reduceMul, Int.reduceNeg, Int.reducePow, Int.reduceEq, ↓reduceIte, Nat.reduceEqDiff, Nat.reduceAdd, Nat.reduceMul, Nat.reduceLeDiff, Nat.reduceSub, Nat.reduceLT, Int.reduceToNat, Int.reduceLT, Int.reduceLE, reduceCtorEq]
  · simp only [go_sem, Int.reduceTMod, Int.reduceTDiv, Int.reduceDiv, Int.reduceMod, Int.reduceAdd, Int.reduceSub, Int.reduceMul, Int.reduceNeg, Int.reducePow, Int.reduceEq, ↓reduceIte, Nat.reduceEqDiff, Nat.reduceAdd, Nat.reduceMul, Nat.reduceLeDiff, Nat.reduceSub, Nat.reduceLT, Int.reduceToNat, Int.reduceLT, Int.reduceLE, reduceCtorEq]
  · simp only [refTo, go_sem, Int.reduceTMod, Int.reduceTDiv, Int.reduceDiv, Int.reduceMod, Int.reduceAdd, Int.reduceSub, Int.reduceMul, Int.reduceNeg, Int.reducePow, Int.reduceEq, ↓reduceIte, Nat.reduceEqDiff, Nat.reduceAdd, Nat.reduceMul, Nat.reduceLeDiff, Nat.reduceSub, Nat.reduceLT, Int.reduceToNat, Int.reduceLT, Int.reduceLE, reduceCtorEq]
  · simp only [go_sem, Int.reduceTMod, Int.reduceTDiv, Int.reduceDiv, Int.reduceMod, Int.reduceAdd, Int.reduceSub, Int.reduceMul, Int.reduceNeg, Int.reducePow, Int.reduceEq, ↓reduceIte, Nat.reduceEqDiff, Nat.reduceAdd, Nat.reduceMul, Nat.reduceLeDiff, Nat.reduceSub, Nat.reduceLT, Int.reduceToNat, Int.reduceLT, Int.reduceLE, reduceCtorEq]
    omega
  · simp only [na_0 hid, na_ne hid, go_sem, Int.reduceTMod, Int.reduceTDiv, Int.reduceDiv, Int.reduceMod, Int.reduceAdd, Int.reduceSub, Int.reduceMul, Int.reduceNeg, Int.reducePow, Int.reduceEq, ↓reduceIte, Nat.reduceEqDiff, Nat.reduceAdd, Nat.reduceMul, Nat.reduceLeDiff, Nat.reduceSub, Nat.reduceLT, Int.reduceToNat, Int.reduceLT, Int.reduceLE, reduceCtorEq]
  · simp only [go_sem, Int.reduceTMod, Int.reduceTDiv, Int.reduceDiv, Int.reduceMod, Int.reduceAdd, Int.reduceSub, Int.reduceMul, Int.reduceNeg, Int.reducePow, Int.reduceEq, ↓reduceIte, Nat.reduceEqDiff, Nat.reduceAdd, Nat.reduceMul, Nat.reduceLeDiff, Nat.reduceSub, Nat.reduceLT, Int.reduceToNat, Int.reduceLT, Int.reduceLE, reduceCtorEq]

/- Rows of polygons; inside or not, walked. Conditions: those that each theorem names. -/
open Go Go.Proofs
set_option linter.unusedSimpArgs false
set_option linter.unusedVariables false

abbrev enc1 (c : Cell) : List Cell := [c]
theorem ce1 (c : Cell) : (enc1 c).length = 1 := rfl
/-- A row of polygons. -/
def RPP (m : Mem) (n : Nat) (r : Reg) (L : List (List Pt)) : Prop :=
  ∃ cs : List Cell, cs.length = L.length ∧ RL enc1 1 m n r cs ∧ ∀ (i : Nat) (c : Cell) (l : List Pt), cs[i]? = some c → L[i]? = some l → RPe m n (.one c) l
theorem RPP.len {m : Mem} {n : Nat} {r : Reg} {L : List (List Pt)} (h : RPP m n r L) : lenO r = some (L.length : Int) := by
  obtain ⟨cs, h1, h2, _⟩ := h
  rw [h2.len, h1]
theorem RPP.keep {m m' : Mem} {n n' : Nat} {r : Reg} {L : List (List Pt)} (h : RPP m n r L) (hn : n ≤ n') (hm : ∀ id, id < n → m' id = m id) : RPP m' n' r L := by
  obtain ⟨cs, h1, h2, h3⟩ := h
  exact ⟨cs, h1, h2.keep hn hm, fun i c l hc hl => (h3 i c l hc hl).keep hn hm⟩
theorem RPP.frz {m : Mem} {n : Nat} {r : Reg} {L : List (List Pt)} (h : RPP m n r L) : RPP (frz m) n r L := by
  obtain ⟨cs, h1, h2, h3⟩ := h
  exact ⟨cs, h1, RL.frz h2, fun i c l hc hl => (h3 i c l hc hl).frz⟩
theorem RPP.at {m : Mem} {n : Nat} {r : Reg} {L : List (List Pt)} {i : Nat} {l : List Pt} (h : RPP m n r L) (hi : L[i]? = some l) :
    ∃ id off cap b c, r = .one (.sl id off L.length cap 1) ∧ id < n ∧ m id = some b ∧ b.cells[off + i]? = some c ∧ RPe m n (.one c) l := by
  obtain ⟨cs, h1, h2, h3⟩ := h
  have hlt : i < L.length := (List.getElem?_eq_some_iff.1 hi).1
  have hc : cs[i]? = some (cs[i]'(by omega)) := List.getElem?_eq_getElem (by omega)
  obtain ⟨id, off, cap, e1, e2, e3⟩ := h2.at ce1 hc
  obtain ⟨b, h4, h5⟩ := rd_cell e3 (a := 0) (c := cs[i]'(by omega)) rfl
  rw [Nat.mul_one, Nat.add_zero] at h5
  rw [h1] at e1
  exact ⟨id, off, cap, b, _, e1, e2, h4, h5, h3 i _ l hc hi⟩
/-- The sum of the windings. -/
def wSum (L : List (List Pt)) (s : Pt) : Nat → Int
  | 0 => 0
  | i + 1 => wSum L s i + (match L[i]? with | some l => windsTo l s l.length | none => 0)
theorem wSum_bd (L : List (List Pt)) (s : Pt) (hL : ∀ l ∈ L, l.length ≤ 20) : ∀ i : Nat, -(20 * (i : Int)) ≤ wSum L s i ∧ wSum L s i ≤ 20 * i
  | 0 => by simp [wSum]
  | i + 1 => by
    have h := wSum_bd L s hL i
    rw [wSum]
    split
    · rename_i l hl
      have h1 := hL l (List.mem_of_getElem? hl)
      have h2 := winds_bd l s l.length
      omega
    · omega
theorem and_one (x : Int) : Go.bits .and .i64 x 1 = x % 2 := by
  show IntKind.i64.wrap ((BitVec.ofInt 64 x &&& BitVec.ofInt 64 1).toNat : Int) = x % 2
  have h : (BitVec.ofInt 64 x &&& BitVec.ofInt 64 1).toNat = (BitVec.ofInt 64 x).toNat % 2 := by
    rw [BitVec.toNat_and]
    exact Nat.and_one_is_mod _
  rw [h, BitVec.toNat_ofInt, IntKind.wrap_i64]
  omega
/-- Does a number of windings mean inside? -/
def inV (rule n : Int) : Bool := if rule = 1 then decide (n ≠ 0) else if rule = 2 then decide (n % 2 = 1) else false
theorem v_cin (rule n : Int) (m : Mem) (k : Nat) : callF TA 32 [RI rule, RI n] m k = some (RB (inV rule n)) := by
  refine callF_of (Fn_ofK (fn := F32) rfl (by simp [F32]) ?_)
  have ha := and_one n
  by_cases r1 : rule = 1
  · have r2 : ¬ rule = 2 := by omega
    by_cases n0 : n = 0
    · have e : inV rule n = false := by unfold inV; rw [if_pos r1]; simp [n0]
      rw [e]
      try simp only [r32_0, r32_1, c32, F32, r1, r2, n0, e, go_sem, Int.reduceTMod, Int.reduceTDiv, Int.reduceDiv, Int.reduceMod, Int.reduceAdd, Int.reduceSub, Int.reduceMul, Int.reduceNeg, Int.reducePow, Int.reduceEq, ↓reduceIte, Nat.reduceEqDiff, Nat.reduceAdd, Nat.reduceMul, Nat.reduceLeDiff, Nat.reduceSub, Nat.reduceLT, Int.reduceToNat, Int.reduceLT, Int.reduceLE, reduceCtorEq]
      repeat' ((first | refine FK_split (fun h_ => ?_) (fun h_ => ?_) | refine GK_split (fun h_ => ?_) (fun h_ => ?_) | refine ite_both (fun h_ => ?_) (fun h_ => ?_)) <;> (try simp only [decide_eq_true_eq, decide_eq_false_iff_not, Bool.not_true, Bool.not_false, Bool.not_eq_true', Bool.not_eq_false', Bool.not_eq_eq_eq_not, Decidable.not_not] at h_) <;> (try simp only [r32_0, r32_1, c32, F32, r1, r2, n0, e, h_, go_sem, Int.reduceTMod, Int.reduceTDiv, Int.reduceDiv, Int.reduceMod, Int.reduceAdd, Int.reduceSub, Int.reduceMul, Int.reduceNeg, Int.reducePow, Int.reduceEq, ↓reduceIte, Nat.reduceEqDiff, Nat.reduceAdd, Nat.reduceMul, Nat.reduceLeDiff, Nat.reduceSub, Nat.reduceLT, Int.reduceToNat, Int.reduceLT, Int.reduceLE, reduceCtorEq]))
    · have e : inV rule n = true := by unfold inV; rw [if_pos r1]; simp [n0]
      rw [e]
      try simp only [r32_0, r32_1, c32, F32, r1, r2, n0, e, go_sem, Int.reduceTMod, Int.reduceTDiv, Int.reduceDiv, Int.reduceMod, Int.reduceAdd, Int.reduceSub, Int.reduceMul, Int.reduceNeg, Int.reducePow, Int.reduceEq, ↓reduceIte, Nat.reduceEqDiff, Nat.reduceAdd, Nat.reduceMul, Nat.reduceLeDiff, Nat.reduceSub, Nat.reduceLT, Int.reduceToNat, Int.reduceLT, Int.reduceLE, reduceCtorEq]
      repeat' ((first | refine FK_split (fun h_ => ?_) (fun h_ => ?_) | refine GK_split (fun h_ => ?_) (fun h_ => ?_) | refine ite_both (fun h_ => ?_) (fun h_ => ?_)) <;> (try simp only [decide_eq_true_eq, decide_eq_false_iff_not, Bool.not_true, Bool.not_false, Bool.not_eq_true', Bool.not_eq_false', Bool.not_eq_eq_eq_not, Decidable.not_not] at h_) <;> (try simp only [r32_0, r32_1, c32, F32, r1, r2, n0, e, h_, go_sem, Int.reduceTMod, Int.reduceTDiv, Int.reduceDiv, Int.reduceMod, Int.reduceAdd, Int.reduceSub, Int.reduceMul, Int.reduceNeg, Int.reducePow, Int.reduceEq, ↓reduceIte, Nat.reduceEqDiff, Nat.reduceAdd, Nat.reduceMul, Nat.reduceLeDiff, Nat.reduceSub, Nat.reduceLT, Int.reduceToNat, Int.reduceLT, Int.reduceLE, reduceCtorEq]))
  · by_cases r2 : rule = 2
    · by_cases h2 : n % 2 = 1
      · have e : inV rule n = true := by unfold inV; rw [if_neg r1, if_pos r2]; simp [h2]
        rw [e]
        try simp only [r32_0, r32_1, c32, F32, r1, r2, ha, h2, e, go_sem, Int.reduceTMod, Int.reduceTDiv, Int.reduceDiv, Int.reduceMod, Int.reduceAdd, Int.reduceSub, Int.reduceMul, Int.reduceNeg, Int.reducePow, Int.reduceEq, ↓reduceIte, Nat.reduceEqDiff, Nat.reduceAdd, Nat.reduceMul, Nat.reduceLeDiff, Nat.reduceSub, Nat.reduceLT, Int.reduceToNat, Int.reduceLT, Int.reduceLE, reduceCtorEq]
        repeat' ((first | refine FK_split (fun h_ => ?_) (fun h_ => ?_) | refine GK_split (fun h_ => ?_) (fun h_ => ?_) | refine ite_both (fun h_ => ?_) (fun h_ => ?_)) <;> (try simp only [decide_eq_true_eq, decide_eq_false_iff_not, Bool.not_true, Bool.not_false, Bool.not_eq_true', Bool.not_eq_false', Bool.not_eq_eq_eq_not, Decidable.not_not] at h_) <;> (try simp only [r32_0, r32_1, c32, F32, r1, r2, ha, h2, e, h_, go_sem, Int.reduceTMod, Int.reduceTDiv, Int.reduceDiv, Int.reduceMod, Int.reduceAdd, Int.reduceSub, Int.reduceMul, Int.reduceNeg, Int.reducePow, Int.reduceEq, ↓reduceIte, Nat.reduceEqDiff, Nat.reduceAdd, Nat.reduceMul, Nat.reduceLeDiff, Nat.reduceSub, Nat.reduceLT, Int.reduceToNat, Int.reduceLT, Int.reduceLE, reduceCtorEq]))
      · have e : inV rule n = false := by unfold inV; rw [if_neg r1, if_pos r2]; simp [h2]
        rw [e]
        try simp only [r32_0, r32_1, c32, F32, r1, r2, ha, h2, e, go_sem, Int.reduceTMod, Int.reduceTDiv, Int.reduceDiv, Int.reduceMod, Int.reduceAdd, Int.reduceSub, Int.reduceMul, Int.reduceNeg, Int.reducePow, Int.reduceEq, ↓reduceIte, Nat.reduceEqDiff, Nat.reduceAdd, Nat.reduceMul, Nat.reduceLeDiff, Nat.reduceSub, Nat.reduceLT, Int.reduceToNat, Int.reduceLT, Int.reduceLE, reduceCtorEq]
        repeat' ((first | refine FK_split (fun h_ => ?_) (fun h_ => ?_) | refine GK_split (fun h_ => ?_) (fun h_ => ?_) | refine ite_both (fun h_ => ?_) (fun h_ => ?_)) <;> (try simp only [decide_eq_true_eq, decide_eq_false_iff_not, Bool.not_true, Bool.not_false, Bool.not_eq_true', Bool.not_eq_false', Bool.not_eq_eq_eq_not, Decidable.not_not] at h_) <;> (try simp only [r32_0, r32_1, c32, F32, r1, r2, ha, h2, e, h_, go_sem, Int.reduceTMod, Int.reduceTDiv, Int.reduceDiv, Int.reduceMod, Int.reduceAdd, Int.reduceSub, Int.reduceMul, Int.reduceNeg, Int.reducePow, Int.reduceEq, ↓reduceIte, Nat.reduceEqDiff, Nat.reduceAdd, Nat.reduceMul, Nat.reduceLeDiff, Nat.reduceSub, Nat.reduceLT, Int.reduceToNat, Int.reduceLT, Int.reduceLE, reduceCtorEq]))
    · have e : inV rule n = false := by unfold inV; rw [if_neg r1, if_neg r2]
      rw [e]
      try simp only [r32_0, r32_1, c32, F32, r1, r2, e, go_sem, Int.reduceTMod, Int.reduceTDiv, Int.reduceDiv, Int.reduceMod, Int.reduceAdd, Int.reduceSub, Int.reduceMul, Int.reduceNeg, Int.reducePow, Int.reduceEq, ↓reduceIte, Nat.reduceEqDiff, Nat.reduceAdd, Nat.reduceMul, Nat.reduceLeDiff, Nat.reduceSub, Nat.reduceLT, Int.reduceToNat, Int.reduceLT, Int.reduceLE, reduceCtorEq]
      repeat' ((first | refine FK_split (fun h_ => ?_) (fun h_ => ?_) | refine GK_split (fun h_ => ?_) (fun h_ => ?_) | refine ite_both (fun h_ => ?_) (fun h_ => ?_)) <;> (try simp only [decide_eq_true_eq, decide_eq_false_iff_not, Bool.not_true, Bool.not_false, Bool.not_eq_true', Bool.not_eq_false', Bool.not_eq_eq_eq_not, Decidable.not_not] at h_) <;> (try simp only [r32_0, r32_1, c32, F32, r1, r2, e, h_, go_sem, Int.reduceTMod, Int.reduceTDiv, Int.reduceDiv, Int.reduceMod, Int.reduceAdd, Int.reduceSub, Int.reduceMul, Int.reduceNeg, Int.reducePow, Int.reduceEq, ↓reduceIte, Nat.reduceEqDiff, Nat.reduceAdd, Nat.reduceMul, Nat.reduceLeDiff, Nat.reduceSub, Nat.reduceLT, Int.reduceToNat, Int.reduceLT, Int.reduceLE, reduceCtorEq]))
theorem v_Inside (r : Reg) (L : List (List Pt)) (rule : Int) (s : Pt) (m : Mem) (n : Nat) (hr : RPP m n r L) (hn : L.length ≤ 60) (hL : ∀ l ∈ L, l.length ≤ 20) (hi : ∀ l ∈ L, l.all inP = true) (hs : inP s = true) :
    callF TA 23 [r, RI rule, .agg [I s.x, I s.y]] m n = some (RB (inV rule (wSum L s L.length))) := by
  refine callF_of (Fn_ofK (fn := F23) rfl (by simp [F23]) ?_)
  have hlen := hr.len
  try simp only [r23_0, r23_1, r23_2, r23_3, r23_4, r23_5, r23_6, r23_7, c23, F23, hlen, go_sem, Int.reduceTMod, Int.reduceTDiv, Int.reduceDiv, Int.reduceMod, Int.reduceAdd, Int.reduceSub, Int.reduceMul, Int.reduceNeg, Int.reducePow, Int.reduceEq, ↓reduceIte, Nat.reduceEqDiff, Nat.reduceAdd, Nat.reduceMul, Nat.reduceLeDiff, Nat.reduceSub, Nat.reduceLT, Int.reduceToNat, Int.reduceLT, Int.reduceLE, reduceCtorEq]
  repeat' ((first | refine FK_split (fun h_ => ?_) (fun h_ => ?_) | refine GK_split (fun h_ => ?_) (fun h_ => ?_) | refine ite_both (fun h_ => ?_) (fun h_ => ?_)) <;> (try simp only [decide_eq_true_eq, decide_eq_false_iff_not, Bool.not_true, Bool.not_false, Bool.not_eq_true', Bool.not_eq_false', Bool.not_eq_eq_eq_not, Decidable.not_not] at h_) <;> (try simp only [r23_0, r23_1, r23_2, r23_3, r23_4, r23_5, r23_6, r23_7, c23, F23, hlen, h_, go_sem, Int.reduceTMod, Int.reduceTDiv, Int.reduceDiv, Int.reduceMod, Int.reduceAdd, Int.reduceSub, Int.reduceMul, Int.reduceNeg, Int.reducePow, Int.reduceEq, ↓reduceIte, Nat.reduceEqDiff, Nat.reduceAdd, Nat.reduceMul, Nat.reduceLeDiff, Nat.reduceSub, Nat.reduceLT, Int.reduceToNat, Int.reduceLT, Int.reduceLE, reduceCtorEq]))
  refine XK_iter (inv := fun i t => t.e 12 = RI i ∧ t.e 11 = RI L.length ∧ t.e 10 = r ∧ t.e 1 = RI rule ∧ t.e 5 = .one (.ptr n 0) ∧ t.e 7 = RI (wSum L s i) ∧ t.n = n + 1 ∧ t.m = upd m n (some ⟨[I s.x, I s.y], true⟩)) L.length
    (fun K _ => ⟨fun i hi' t ht next => ?_, fun t ht => ?_⟩) 0 (by omega) _ ⟨?_, ?_, ?_, ?_, ?_, ?_, ?_, ?_⟩
  · obtain ⟨e, M, N⟩ := t
    obtain ⟨q12, q11, q10, q1, q5, q7, qn, qm⟩ := ht
    simp only at q12 q11 q10 q1 q5 q7 qn qm
    subst qn
    have hp : L[i]? = some L[i] := List.getElem?_eq_getElem hi'
    have hrM : RPP M (n + 1) r L := hr.keep (by omega) (fun id hid => by rw [qm, upd_ne _ _ (by omega)])
    have hs' : M n = some ⟨[I s.x, I s.y], true⟩ := by rw [qm, upd_same]
    obtain ⟨id, off, cap, b, c, hr1, hid, hb, hbc, hc⟩ := hrM.at hp
    have hw : wSum L s (i + 1) = wSum L s i + windsTo L[i] s L[i].length := by rw [wSum, hp]
    have b1 := wSum_bd L s hL i
    have b2 := wSum_bd L s hL (i + 1)
    have vW := v_WindsE (.one c) L[i] s (frz M) (n + 1) hc.frz (by have := hL _ (List.getElem_mem hi'); omega) (hi _ (List.getElem_mem hi')) hs
    have c2 : ((i : Int) < (L.length : Int)) = True := eq_true (by omega)
    have c3 : (0 ≤ (i : Int)) = True := eq_true (by omega)
    have c7 : IntKind.i64.wrap ((i : Int) + 1) = ((i + 1 : Nat) : Int) := wr_nat (by omega)
    have c8 : IntKind.i64.wrap (wSum L s i + windsTo L[i] s L[i].length) = wSum L s (i + 1) := (wr_eq (by omega) (by omega)).trans hw.symm
    generalize wSum L s (i + 1) = w1 at *
    generalize wSum L s i = w0 at *
    generalize L[i] = l at *
    rw [hr1] at q10
    try simp only [r23_0, r23_1, r23_2, r23_3, r23_4, r23_5, r23_6, r23_7, c23, F23, l23_0, q12, q11, q10, q5, q7, c2, c3, c7, c8, hb, hbc, hs', rd_of hs', vW, Int.toNat_natCast, Nat.mul_one, go_sem, Int.reduceTMod, Int.reduceTDiv, Int.reduceDiv, Int.reduceMod, Int.reduceAdd, Int.reduceSub, Int.reduceMul, Int.reduceNeg, Int.reducePow, Int.reduceEq, ↓reduceIte, Nat.reduceEqDiff, Nat.reduceAdd, Nat.reduceMul, Nat.reduceLeDiff, Nat.reduceSub, Nat.reduceLT, Int.reduceToNat, Int.reduceLT, Int.reduceLE, reduceCtorEq]
    repeat' ((first | refine FK_split (fun h_ => ?_) (fun h_ => ?_) | refine GK_split (fun h_ => ?_) (fun h_ => ?_) | refine ite_both (fun h_ => ?_) (fun h_ => ?_)) <;> (try simp only [decide_eq_true_eq, decide_eq_false_iff_not, Bool.not_true, Bool.not_false, Bool.not_eq_true', Bool.not_eq_false', Bool.not_eq_eq_eq_not, Decidable.not_not] at h_) <;> (try simp only [r23_0, r23_1, r23_2, r23_3, r23_4, r23_5, r23_6, r23_7, c23, F23, l23_0, q12, q11, q10, q5, q7, c2, c3, c7, c8, hb, hbc, hs', rd_of hs', vW, Int.toNat_natCast, Nat.mul_one, h_, go_sem, Int.reduceTMod, Int.reduceTDiv, Int.reduceDiv, Int.reduceMod, Int.reduceAdd, Int.reduceSub, Int.reduceMul, Int.reduceNeg, Int.reducePow, Int.reduceEq, ↓reduceIte, Nat.reduceEqDiff, Nat.reduceAdd, Nat.reduceMul, Nat.reduceLeDiff, Nat.reduceSub, Nat.reduceLT, Int.reduceToNat, Int.reduceLT, Int.reduceLE, reduceCtorEq]))
    refine next _ ⟨?_, ?_, ?_, ?_, ?_, ?_, ?_, ?_⟩
    · simp only [go_sem, Int.reduceTMod, Int.reduceTDiv, Int.reduceDiv, Int.reduceMod, Int.reduceAdd, Int.reduceSub, Int.reduceMul, Int.reduceNeg, Int.reducePow, Int.reduceEq, ↓reduceIte, Nat.reduceEqDiff, Nat.reduceAdd, Nat.reduceMul, Nat.reduceLeDiff, Nat.reduceSub, Nat.reduceLT, Int.reduceToNat, Int.reduceLT, Int.reduceLE, reduceCtorEq]
    · simp only [q11, go_sem, Int.reduceTMod, Int.reduceTDiv, Int.reduceDiv, Int.reduceMod, Int.reduceAdd, Int.reduceSub, Int.reduceMul, Int.reduceNeg, Int.reducePow, Int.reduceEq, ↓reduceIte, Nat.reduceEqDiff, Nat.reduceAdd, Nat.reduceMul, Nat.reduceLeDiff, Nat.reduceSub, Nat.reduceLT, Int.reduceToNat, Int.reduceLT, Int.reduceLE, reduceCtorEq]
    · simp only [q10, hr1, go_sem, Int.reduceTMod, Int.reduceTDiv, Int.reduceDiv, Int.reduceMod, Int.reduceAdd, Int.reduceSub, Int.reduceMul, Int.reduceNeg, Int.reducePow, Int.reduceEq, ↓reduceIte, Nat.reduceEqDiff, Nat.reduceAdd, Nat.reduceMul, Nat.reduceLeDiff, Nat.reduceSub, Nat.reduceLT, Int.reduceToNat, Int.reduceLT, Int.reduceLE, reduceCtorEq]
    · simp only [q1, go_sem, Int.reduceTMod, Int.reduceTDiv, Int.reduceDiv, Int.reduceMod, Int.reduceAdd, Int.reduceSub, Int.reduceMul, Int.reduceNeg, Int.reducePow, Int.reduceEq, ↓reduceIte, Nat.reduceEqDiff, Nat.reduceAdd, Nat.reduceMul, Nat.reduceLeDiff, Nat.reduceSub, Nat.reduceLT, Int.reduceToNat, Int.reduceLT, Int.reduceLE, reduceCtorEq]
    · simp only [q5, go_sem, Int.reduceTMod, Int.reduceTDiv, Int.reduceDiv, Int.reduceMod, Int.reduceAdd, Int.reduceSub, Int.reduceMul, Int.reduceNeg, Int.reducePow, Int.reduceEq, ↓reduceIte, Nat.reduceEqDiff, Nat.reduceAdd, Nat.reduceMul, Nat.reduceLeDiff, Nat.reduceSub, Nat.reduceLT, Int.reduceToNat, Int.reduceLT, Int.reduceLE, reduceCtorEq]
    · simp only [go_sem, Int.reduceTMod, Int.reduceTDiv, Int.reduceDiv, Int.reduceMod, Int.reduceAdd, Int.reduceSub, Int.reduceMul, Int.reduceNeg, Int.reducePow, Int.reduceEq, ↓reduceIte, Nat.reduceEqDiff, Nat.reduceAdd, Nat.reduceMul, Nat.reduceLeDiff, Nat.reduceSub, Nat.reduceLT, Int.reduceToNat, Int.reduceLT, Int.reduceLE, reduceCtorEq]
    · rfl
    · exact qm
  · obtain ⟨e, M, N⟩ := t
    obtain ⟨q12, q11, q10, q1, q5, q7, qn, qm⟩ := ht
    simp only at q12 q11 q10 q1 q5 q7 qn qm
    have c2 : ((L.length : Int) < (L.length : Int)) = False := eq_false (by omega)
    try simp only [r23_0, r23_1, r23_2, r23_3, r23_4, r23_5, r23_6, r23_7, c23, F23, l23_0, q12, q11, q1, q7, c2, v_cin, go_sem, Int.reduceTMod, Int.reduceTDiv, Int.reduceDiv, Int.reduceMod, Int.reduceAdd, Int.reduceSub, Int.reduceMul, Int.reduceNeg, Int.reducePow, Int.reduceEq, ↓reduceIte, Nat.reduceEqDiff, Nat.reduceAdd, Nat.reduceMul, Nat.reduceLeDiff, Nat.reduceSub, Nat.reduceLT, Int.reduceToNat, Int.reduceLT, Int.reduceLE, reduceCtorEq]
    repeat' ((first | refine FK_split (fun h_ => ?_) (fun h_ => ?_) | refine GK_split (fun h_ => ?_) (fun h_ => ?_) | refine ite_both (fun h_ => ?_) (fun h_ => ?_)) <;> (try simp only [decide_eq_true_eq, decide_eq_false_iff_not, Bool.not_true, Bool.not_false, Bool.not_eq_true', Bool.not_eq_false', Bool.not_eq_eq_eq_not, Decidable.not_not] at h_) <;> (try simp only [r23_0, r23_1, r23_2, r23_3, r23_4, r23_5, r23_6, r23_7, c23, F23, l23_0, q12, q11, q1, q7, c2, v_cin, h_, go_sem, Int.reduceTMod, Int.reduceTDiv, Int.reduceDiv, Int.reduceMod, Int.reduceAdd, Int.reduceSub, Int.reduceMul, Int.reduceNeg, Int.reducePow, Int.reduceEq, ↓reduceIte, Nat.reduceEqDiff, Nat.reduceAdd, Nat.reduceMul, Nat.reduceLeDiff, Nat.reduceSub, Nat.reduceLT, Int.reduceToNat, Int.reduceLT, Int.reduceLE, reduceCtorEq]))
  · simp only [go_sem, Int.reduceTMod, Int.reduceTDiv, Int.reduceDiv, Int.reduceMod, Int.reduceAdd, Int.reduceSub, Int.reduceMul, Int.reduceNeg, Int.reducePow, Int.reduceEq, ↓reduceIte, Nat.reduceEqDiff, Nat.reduceAdd, Nat.reduceMul, Nat.reduceLeDiff, Nat.reduceSub, Nat.reduceLT, Int.reduceToNat, Int.reduceLT, Int.reduceLE, reduceCtorEq]
  · simp only [go_sem, Int.reduceTMod, Int.reduceTDiv, Int.reduceDiv, Int.reduceMod, Int.reduceAdd, Int.reduceSub, Int.reduceMul, Int.reduceNeg, Int.reducePow, Int.reduceEq, ↓reduceIte, Nat.reduceEqDiff, Nat.reduceAdd, Nat.reduceMul, Nat.reduceLeDiff, Nat.reduceSub, Nat.reduceLT, Int.reduceToNat, Int.reduceLT, Int.reduceLE, reduceCtorEq]
  · simp only [go_sem, Int.reduceTMod, Int.reduceTDiv, Int.reduceDiv, Int.reduceMod, Int.reduceAdd, Int.reduceSub, Int.reduceMul, Int.reduceNeg, Int.reducePow, Int.reduceEq, ↓reduceIte, Nat.reduceEqDiff, Nat.reduceAdd, Nat.reduceMul, Nat.reduceLeDiff, Nat.reduceSub, Nat.reduceLT, Int.reduceToNat, Int.reduceLT, Int.reduceLE, reduceCtorEq]
  · simp only [go_sem, Int.reduceTMod, Int.reduceTDiv, Int.reduceDiv, Int.reduceMod, Int.reduceAdd, Int.reduceSub, Int.reduceMul, Int.reduceNeg, Int.reducePow, Int.reduceEq, ↓reduceIte, Nat.reduceEqDiff, Nat.reduceAdd, Nat.reduceMul, Nat.reduceLeDiff, Nat.reduceSub, Nat.reduceLT, Int.reduceToNat, Int.reduceLT, Int.reduceLE, reduceCtorEq]
  · simp only [go_sem, Int.reduceTMod, Int.reduceTDiv, Int.reduceDiv, Int.reduceMod, Int.reduceAdd, Int.reduceSub, Int.reduceMul, Int.reduceNeg, Int.reducePow, Int.reduceEq, ↓reduceIte, Nat.reduceEqDiff, Nat.reduceAdd, Nat.reduceMul, Nat.reduceLeDiff, Nat.reduceSub, Nat.reduceLT, Int.reduceToNat, Int.reduceLT, Int.reduceLE, reduceCtorEq]
  · simp only [wSum, go_sem, Int.reduceTMod, Int.reduceTDiv, Int.reduceDiv, Int.reduceMod, Int.reduceAdd, Int.reduceSub, Int.reduceMul, Int.reduceNeg, Int.reducePow, Int.reduceEq, ↓reduceIte, Nat.reduceEqDiff, Nat.reduceAdd, Nat.reduceMul, Nat.reduceLeDiff, Nat.reduceSub, Nat.reduceLT, Int.reduceToNat, Int.reduceLT, Int.reduceLE, reduceCtorEq]
  · rfl
  · rfl
theorem v_rInside (r : Reg) (L : List (List Pt)) (rule : Int) (s : Pt) (m : Mem) (n : Nat) (hr : RPP m n r L) (hp : ∀ (i : Nat) (id off : Nat) (cap : Option Nat) (b : Blk) (c : Cell) (l : List Pt), r = .one (.sl id off L.length cap 1) → m id = some b → b.cells[off + i]? = some c → L[i]? = some l → RPt m n (.one c) l)
    (hn : L.length ≤ 60) (hL : ∀ l ∈ L, l.length ≤ 20) (hi : ∀ l ∈ L, l.all inP = true) (hs : inP s = true) :
    callF TA 24 [r, RI rule, .agg [I s.x, I s.y]] m n = some (RB (inV rule (wSum L s L.length))) := by
  refine callF_of (Fn_ofK (fn := F24) rfl (by simp [F24]) ?_)
  have hlen := hr.len
  try simp only [r24_0, r24_1, r24_2, r24_3, r24_5, r24_4, r24_6, r24_7, r24_8, c24, F24, hlen, go_sem, Int.reduceTMod, Int.reduceTDiv, Int.reduceDiv, Int.reduceMod, Int.reduceAdd, Int.reduceSub, Int.reduceMul, Int.reduceNeg, Int.reducePow, Int.reduceEq, ↓reduceIte, Nat.reduceEqDiff, Nat.reduceAdd, Nat.reduceMul, Nat.reduceLeDiff, Nat.reduceSub, Nat.reduceLT, Int.reduceToNat, Int.reduceLT, Int.reduceLE, reduceCtorEq]
  repeat' ((first | refine FK_split (fun h_ => ?_) (fun h_ => ?_) | refine GK_split (fun h_ => ?_) (fun h_ => ?_) | refine ite_both (fun h_ => ?_) (fun h_ => ?_)) <;> (try simp only [decide_eq_true_eq, decide_eq_false_iff_not, Bool.not_true, Bool.not_false, Bool.not_eq_true', Bool.not_eq_false', Bool.not_eq_eq_eq_not, Decidable.not_not] at h_) <;> (try simp only [r24_0, r24_1, r24_2, r24_3, r24_5, r24_4, r24_6, r24_7, r24_8, c24, F24, hlen, h_, go_sem, Int.reduceTMod, Int.reduceTDiv, Int.reduceDiv, Int.reduceMod, Int.reduceAdd, Int.reduceSub, Int.reduceMul, Int.reduceNeg, Int.reducePow, Int.reduceEq, ↓reduceIte, Nat.reduceEqDiff, Nat.reduceAdd, Nat.reduceMul, Nat.reduceLeDiff, Nat.reduceSub, Nat.reduceLT, Int.reduceToNat, Int.reduceLT, Int.reduceLE, reduceCtorEq]))
  refine XK_iter (inv := fun i t => t.e 8 = RI i ∧ t.e 0 = r ∧ t.e 1 = RI rule ∧ t.e 5 = .one (.ptr n 0) ∧ t.e 7 = RI (wSum L s i) ∧ t.n = n + 1 ∧ t.m = upd m n (some ⟨[I s.x, I s.y], true⟩)) L.length
    (fun K _ => ⟨fun i hi' t ht next => ?_, fun t ht => ?_⟩) 0 (by omega) _ ⟨?_, ?_, ?_, ?_, ?_, ?_, ?_⟩
  · obtain ⟨e, M, N⟩ := t
    obtain ⟨q12, q10, q1, q5, q7, qn, qm⟩ := ht
    simp only at q12 q10 q1 q5 q7 qn qm
    subst qn
    have hpi : L[i]? = some L[i] := List.getElem?_eq_getElem hi'
    have hs' : M n = some ⟨[I s.x, I s.y], true⟩ := by rw [qm, upd_same]
    have hold : ∀ j, j < n → M j = m j := fun j hj => by rw [qm, upd_ne _ _ (by omega)]
    obtain ⟨id, off, cap, b, c, hr1, hid, hb, hbc, _⟩ := hr.at hpi
    have hc : RPt M (n + 1) (.one c) L[i] := (hp i id off cap b c _ hr1 hb hbc hpi).keep (by omega) hold
    have hb' : M id = some b := by rw [hold id hid]; exact hb
    have hw : wSum L s (i + 1) = wSum L s i + windsTo L[i] s L[i].length := by rw [wSum, hpi]
    have b1 := wSum_bd L s hL i
    have b2 := wSum_bd L s hL (i + 1)
    have vW := v_rWinds (.one c) L[i] s (frz M) (n + 1) (RL.frz hc) (by have := hL _ (List.getElem_mem hi'); omega) (hi _ (List.getElem_mem hi')) hs
    have c2 : ((i : Int) < (L.length : Int)) = True := eq_true (by omega)
    have c3 : (0 ≤ (i : Int)) = True := eq_true (by omega)
    have c7 : IntKind.i64.wrap ((i : Int) + 1) = ((i + 1 : Nat) : Int) := wr_nat (by omega)
    have c8 : IntKind.i64.wrap (wSum L s i + windsTo L[i] s L[i].length) = wSum L s (i + 1) := (wr_eq (by omega) (by omega)).trans hw.symm
    generalize wSum L s (i + 1) = w1 at *
    generalize wSum L s i = w0 at *
    generalize L[i] = l at *
    rw [hr1] at q10 hlen
    try simp only [r24_0, r24_1, r24_2, r24_3, r24_5, r24_4, r24_6, r24_7, r24_8, c24, F24, l24_0, q12, q10, q5, q7, hlen, c2, c3, c7, c8, hb', hbc, hs', rd_of hs', vW, Int.toNat_natCast, Nat.mul_one, go_sem, Int.reduceTMod, Int.reduceTDiv, Int.reduceDiv, Int.reduceMod, Int.reduceAdd, Int.reduceSub, Int.reduceMul, Int.reduceNeg, Int.reducePow, Int.reduceEq, ↓reduceIte, Nat.reduceEqDiff, Nat.reduceAdd, Nat.reduceMul, Nat.reduceLeDiff, Nat.reduceSub, Nat.reduceLT, Int.reduceToNat, Int.reduceLT, Int.reduceLE, reduceCtorEq]
    repeat' ((first | refine FK_split (fun h_ => ?_) (fun h_ => ?_) | refine GK_split (fun h_ => ?_) (fun h_ => ?_) | refine ite_both (fun h_ => ?_) (fun h_ => ?_)) <;> (try simp only [decide_eq_true_eq, decide_eq_false_iff_not, Bool.not_true, Bool.not_false, Bool.not_eq_true', Bool.not_eq_false', Bool.not_eq_eq_eq_not, Decidable.not_not] at h_) <;> (try simp only [r24_0, r24_1, r24_2, r24_3, r24_5, r24_4, r24_6, r24_7, r24_8, c24, F24, l24_0, q12, q10, q5, q7, hlen, c2, c3, c7, c8, hb', hbc, hs', rd_of hs', vW, Int.toNat_natCast, Nat.mul_one, h_, go_sem, Int.reduceTMod, Int.reduceTDiv, Int.reduceDiv, Int.reduceMod, Int.reduceAdd, Int.reduceSub, Int.reduceMul, Int.reduceNeg, Int.reducePow, Int.reduceEq, ↓reduceIte, Nat.reduceEqDiff, Nat.reduceAdd, Nat.reduceMul, Nat.reduceLeDiff, Nat.reduceSub, Nat.reduceLT, Int.reduceToNat, Int.reduceLT, Int.reduceLE, reduceCtorEq]))
    refine next _ ⟨?_, ?_, ?_, ?_, ?_, ?_, ?_⟩
    · simp only [go_sem, Int.reduceTMod, Int.reduceTDiv, Int.reduceDiv, Int.reduceMod, Int.reduceAdd, Int.reduceSub, Int.reduceMul, Int.reduceNeg, Int.reducePow, Int.reduceEq, ↓reduceIte, Nat.reduceEqDiff, Nat.reduceAdd, Nat.reduceMul, Nat.reduceLeDiff, Nat.reduceSub, Nat.reduceLT, Int.reduceToNat, Int.reduceLT, Int.reduceLE, reduceCtorEq]
    · simp only [q10, hr1, go_sem, Int.reduceTMod, Int.reduceTDiv, Int.reduceDiv, Int.reduceMod, Int.reduceAdd, Int.reduceSub, Int.reduceMul, Int.reduceNeg, Int.reducePow, Int.reduceEq, ↓reduceIte, Nat.reduceEqDiff, Nat.reduceAdd, Nat.reduceMul, Nat.reduceLeDiff, Nat.reduceSub, Nat.reduceLT, Int.reduceToNat, Int.reduceLT, Int.reduceLE, reduceCtorEq]
    · simp only [q1, go_sem, Int.reduceTMod, Int.reduceTDiv, Int.reduceDiv, Int.reduceMod, Int.reduceAdd, Int.reduceSub, Int.reduceMul, Int.reduceNeg, Int.reducePow, Int.reduceEq, ↓reduceIte, Nat.reduceEqDiff, Nat.reduceAdd, Nat.reduceMul, Nat.reduceLeDiff, Nat.reduceSub, Nat.reduceLT, Int.reduceToNat, Int.reduceLT, Int.reduceLE, reduceCtorEq]
    · simp only [q5, go_sem, Int.reduceTMod, Int.reduceTDiv, Int.reduceDiv, Int.reduceMod, Int.reduceAdd, Int.reduceSub, Int.reduceMul, Int.reduceNeg, Int.reducePow, Int.reduceEq, ↓reduceIte, Nat.reduceEqDiff, Nat.reduceAdd, Nat.reduceMul, Nat.reduceLeDiff, Nat.reduceSub, Nat.reduceLT, Int.reduceToNat, Int.reduceLT, Int.reduceLE, reduceCtorEq]
    · simp only [go_sem, Int.reduceTMod, Int.reduceTDiv, Int.reduceDiv, Int.reduceMod, Int.reduceAdd, Int.reduceSub, Int.reduceMul, Int.reduceNeg, Int.reducePow, Int.reduceEq, ↓reduceIte, Nat.reduceEqDiff, Nat.reduceAdd, Nat.reduceMul, Nat.reduceLeDiff, Nat.reduceSub, Nat.reduceLT, Int.reduceToNat, Int.reduceLT, Int.reduceLE, reduceCtorEq]
    · rfl
    · exact qm
  · obtain ⟨e, M, N⟩ := t
    obtain ⟨q12, q10, q1, q5, q7, qn, qm⟩ := ht
    simp only at q12 q10 q1 q5 q7 qn qm
    have c2 : ((L.length : Int) < (L.length : Int)) = False := eq_false (by omega)
    generalize wSum L s L.length = w at *
    by_cases r1 : rule = 1
    · have r2 : ¬ rule = 2 := by omega
      by_cases n0 : w = 0
      · have e : inV rule w = false := by unfold inV; rw [if_pos r1]; simp [n0]
        rw [e]
        try simp only [r24_0, r24_1, r24_2, r24_3, r24_5, r24_4, r24_6, r24_7, r24_8, c24, F24, l24_0, q12, q10, q1, q7, hlen, c2, r1, n0, e, go_sem, Int.reduceTMod, Int.reduceTDiv, Int.reduceDiv, Int.reduceMod, Int.reduceAdd, Int.reduceSub, Int.reduceMul, Int.reduceNeg, Int.reducePow, Int.reduceEq, ↓reduceIte, Nat.reduceEqDiff, Nat.reduceAdd, Nat.reduceMul, Nat.reduceLeDiff, Nat.reduceSub, Nat.reduceLT, Int.reduceToNat, Int.reduceLT, Int.reduceLE, reduceCtorEq]
        repeat' ((first | refine FK_split (fun h_ => ?_) (fun h_ => ?_) | refine GK_split (fun h_ => ?_) (fun h_ => ?_) | refine ite_both (fun h_ => ?_) (fun h_ => ?_)) <;> (try simp only [decide_eq_true_eq, decide_eq_false_iff_not, Bool.not_true, Bool.not_false, Bool.not_eq_true', Bool.not_eq_false', Bool.not_eq_eq_eq_not, Decidable.not_not] at h_) <;> (try simp only [r24_0, r24_1, r24_2, r24_3, r24_5, r24_4, r24_6, r24_7, r24_8, c24, F24, l24_0, q12, q10, q1, q7, hlen, c2, r1, n0, e, h_, go_sem, Int.reduceTMod, Int.reduceTDiv, Int.reduceDiv, Int.reduceMod, Int.reduceAdd, Int.reduceSub, Int.reduceMul, Int.reduceNeg, Int.reducePow, Int.reduceEq, ↓reduceIte, Nat.reduceEqDiff, Nat.reduceAdd, Nat.reduceMul, Nat.reduceLeDiff, Nat.reduceSub, Nat.reduceLT, Int.reduceToNat, Int.reduceLT, Int.reduceLE, reduceCtorEq]))
      · have e : inV rule w = true := by unfold inV; rw [if_pos r1]; simp [n0]
        rw [e]
        try simp only [r24_0, r24_1, r24_2, r24_3, r24_5, r24_4, r24_6, r24_7, r24_8, c24, F24, l24_0, q12, q10, q1, q7, hlen, c2, r1, n0, e, go_sem, Int.reduceTMod, Int.reduceTDiv, Int.reduceDiv, Int.reduceMod, Int.reduceAdd, Int.reduceSub, Int.reduceMul, Int.reduceNeg, Int.reducePow, Int.reduceEq, ↓reduceIte, Nat.reduceEqDiff, Nat.reduceAdd, Nat.reduceMul, Nat.reduceLeDiff, Nat.reduceSub, Nat.reduceLT, Int.reduceToNat, Int.reduceLT, Int.reduceLE, reduceCtorEq]
        repeat' ((first | refine FK_split (fun h_ => ?_) (fun h_ => ?_) | refine GK_split (fun h_ => ?_) (fun h_ => ?_) | refine ite_both (fun h_ => ?_) (fun h_ => ?_)) <;> (try simp only [decide_eq_true_eq, decide_eq_false_iff_not, Bool.not_true, Bool.not_false, Bool.not_eq_true', Bool.not_eq_false', Bool.not_eq_eq_eq_not, Decidable.not_not] at h_) <;> (try simp only [r24_0, r24_1, r24_2, r24_3, r24_5, r24_4, r24_6, r24_7, r24_8, c24, F24, l24_0, q12, q10, q1, q7, hlen, c2, r1, n0, e, h_, go_sem, Int.reduceTMod, Int.reduceTDiv, Int.reduceDiv, Int.reduceMod, Int.reduceAdd, Int.reduceSub, Int.reduceMul, Int.reduceNeg, Int.reducePow, Int.reduceEq, ↓reduceIte, Nat.reduceEqDiff, Nat.reduceAdd, Nat.reduceMul, Nat.reduceLeDiff, Nat.reduceSub, Nat.reduceLT, Int.reduceToNat, Int.reduceLT, Int.reduceLE, reduceCtorEq]))
    · by_cases r2 : rule = 2
      · have z2 : ((2 : Int) = 0) = False := eq_false (by decide)
        by_cases h2 : w % 2 = 1
        · have e : inV rule w = true := by unfold inV; rw [if_neg r1, if_pos r2]; simp [h2]
          rw [e]
          have t2 : (w.tmod 2 = 0) = False := eq_false (fun h => by have := (Int.dvd_iff_emod_eq_zero).1 ((Int.dvd_iff_tmod_eq_zero).2 h); omega)
          try simp only [r24_0, r24_1, r24_2, r24_3, r24_5, r24_4, r24_6, r24_7, r24_8, c24, F24, l24_0, q12, q10, q1, q7, hlen, c2, r1, r2, z2, t2, e, go_sem, Int.reduceTMod, Int.reduceTDiv, Int.reduceDiv, Int.reduceMod, Int.reduceAdd, Int.reduceSub, Int.reduceMul, Int.reduceNeg, Int.reducePow, Int.reduceEq, ↓reduceIte, Nat.reduceEqDiff, Nat.reduceAdd, Nat.reduceMul, Nat.reduceLeDiff, Nat.reduceSub, Nat.reduceLT, Int.reduceToNat, Int.reduceLT, Int.reduceLE, reduceCtorEq]
          repeat' ((first | refine FK_split (fun h_ => ?_) (fun h_ => ?_) | refine GK_split (fun h_ => ?_) (fun h_ => ?_) | refine ite_both (fun h_ => ?_) (fun h_ => ?_)) <;> (try simp only [decide_eq_true_eq, decide_eq_false_iff_not, Bool.not_true, Bool.not_false, Bool.not_eq_true', Bool.not_eq_false', Bool.not_eq_eq_eq_not, Decidable.not_not] at h_) <;> (try simp only [r24_0, r24_1, r24_2, r24_3, r24_5, r24_4, r24_6, r24_7, r24_8, c24, F24, l24_0, q12, q10, q1, q7, hlen, c2, r1, r2, z2, t2, e, h_, go_sem, Int.reduceTMod, Int.reduceTDiv, Int.reduceDiv, Int.reduceMod, Int.reduceAdd, Int.reduceSub, Int.reduceMul, Int.reduceNeg, Int.reducePow, Int.reduceEq, ↓reduceIte, Nat.reduceEqDiff, Nat.reduceAdd, Nat.reduceMul, Nat.reduceLeDiff, Nat.reduceSub, Nat.reduceLT, Int.reduceToNat, Int.reduceLT, Int.reduceLE, reduceCtorEq]))
        · have e : inV rule w = false := by unfold inV; rw [if_neg r1, if_pos r2]; simp [h2]
          rw [e]
          have t2 : (w.tmod 2 = 0) = True := eq_true ((Int.dvd_iff_tmod_eq_zero).1 ((Int.dvd_iff_emod_eq_zero).2 (by omega)))
          try simp only [r24_0, r24_1, r24_2, r24_3, r24_5, r24_4, r24_6, r24_7, r24_8, c24, F24, l24_0, q12, q10, q1, q7, hlen, c2, r1, r2, z2, t2, e, go_sem, Int.reduceTMod, Int.reduceTDiv, Int.reduceDiv, Int.reduceMod, Int.reduceAdd, Int.reduceSub, Int.reduceMul, Int.reduceNeg, Int.reducePow, Int.reduceEq, ↓reduceIte, Nat.reduceEqDiff, Nat.reduceAdd, Nat.reduceMul, Nat.reduceLeDiff, Nat.reduceSub, Nat.reduceLT, Int.reduceToNat, Int.reduceLT, Int.reduceLE, reduceCtorEq]
          repeat' ((first | refine FK_split (fun h_ => ?_) (fun h_ => ?_) | refine GK_split (fun h_ => ?_) (fun h_ => ?_) | refine ite_both (fun h_ => ?_) (fun h_ => ?_)) <;> (try simp only [decide_eq_true_eq, decide_eq_false_iff_not, Bool.not_true, Bool.not_false, Bool.not_eq_true', Bool.not_eq_false', Bool.not_eq_eq_eq_not, Decidable.not_not] at h_) <;> (try simp only [r24_0, r24_1, r24_2, r24_3, r24_5, r24_4, r24_6, r24_7, r24_8, c24, F24, l24_0, q12, q10, q1, q7, hlen, c2, r1, r2, z2, t2, e, h_, go_sem, Int.reduceTMod, Int.reduceTDiv, Int.reduceDiv, Int.reduceMod, Int.reduceAdd, Int.reduceSub, Int.reduceMul, Int.reduceNeg, Int.reducePow, Int.reduceEq, ↓reduceIte, Nat.reduceEqDiff, Nat.reduceAdd, Nat.reduceMul, Nat.reduceLeDiff, Nat.reduceSub, Nat.reduceLT, Int.reduceToNat, Int.reduceLT, Int.reduceLE, reduceCtorEq]))
      · have e : inV rule w = false := by unfold inV; rw [if_neg r1, if_neg r2]
        rw [e]
        try simp only [r24_0, r24_1, r24_2, r24_3, r24_5, r24_4, r24_6, r24_7, r24_8, c24, F24, l24_0, q12, q10, q1, q7, hlen, c2, r1, r2, e, go_sem, Int.reduceTMod, Int.reduceTDiv, Int.reduceDiv, Int.reduceMod, Int.reduceAdd, Int.reduceSub, Int.reduceMul, Int.reduceNeg, Int.reducePow, Int.reduceEq, ↓reduceIte, Nat.reduceEqDiff, Nat.reduceAdd, Nat.reduceMul, Nat.reduceLeDiff, Nat.reduceSub, Nat.reduceLT, Int.reduceToNat, Int.reduceLT, Int.reduceLE, reduceCtorEq]
        repeat' ((first | refine FK_split (fun h_ => ?_) (fun h_ => ?_) | refine GK_split (fun h_ => ?_) (fun h_ => ?_) | refine ite_both (fun h_ => ?_) (fun h_ => ?_)) <;> (try simp only [decide_eq_true_eq, decide_eq_false_iff_not, Bool.not_true, Bool.not_false, Bool.not_eq_true', Bool.not_eq_false', Bool.not_eq_eq_eq_not, Decidable.not_not] at h_) <;> (try simp only [r24_0, r24_1, r24_2, r24_3, r24_5, r24_4, r24_6, r24_7, r24_8, c24, F24, l24_0, q12, q10, q1, q7, hlen, c2, r1, r2, e, h_, go_sem, Int.reduceTMod, Int.reduceTDiv, Int.reduceDiv, Int.reduceMod, Int.reduceAdd, Int.reduceSub, Int.reduceMul, Int.reduceNeg, Int.reducePow, Int.reduceEq, ↓reduceIte, Nat.reduceEqDiff, Nat.reduceAdd, Nat.reduceMul, Nat.reduceLeDiff, Nat.reduceSub, Nat.reduceLT, Int.reduceToNat, Int.reduceLT, Int.reduceLE, reduceCtorEq]))
  · simp only [go_sem, Int.reduceTMod, Int.reduceTDiv, Int.reduceDiv, Int.reduceMod, Int.reduceAdd, Int.reduceSub, Int.reduceMul, Int.reduceNeg, Int.reducePow, Int.reduceEq, ↓reduceIte, Nat.reduceEqDiff, Nat.reduceAdd, Nat.reduceMul, Nat.reduceLeDiff, Nat.reduceSub, Nat.reduceLT, Int.reduceToNat, Int.reduceLT, Int.reduceLE, reduceCtorEq]
  · simp only [go_sem, Int.reduceTMod, Int.reduceTDiv, Int.reduceDiv, Int.reduceMod, Int.reduceAdd, Int.reduceSub, Int.reduceMul, Int.reduceNeg, Int.reducePow, Int.reduceEq, ↓reduceIte, Nat.reduceEqDiff, Nat.reduceAdd, Nat.reduceMul, Nat.reduceLeDiff, Nat.reduceSub, Nat.reduceLT, Int.reduceToNat, Int.reduceLT, Int.reduceLE, reduceCtorEq]
  · simp only [go_sem, Int.reduceTMod, Int.reduceTDiv, Int.reduceDiv, Int.reduceMod, Int.reduceAdd, Int.reduceSub, Int.reduceMul, Int.reduceNeg, Int.reducePow, Int.reduceEq, ↓reduceIte, Nat.reduceEqDiff, Nat.reduceAdd, Nat.reduceMul, Nat.reduceLeDiff, Nat.reduceSub, Nat.reduceLT, Int.reduceToNat, Int.reduceLT, Int.reduceLE, reduceCtorEq]
  · simp only [go_sem, Int.reduceTMod, Int.reduceTDiv, Int.reduceDiv, Int.reduceMod, Int.reduceAdd, Int.reduceSub, Int.reduceMul, Int.reduceNeg, Int.reducePow, Int.reduceEq, ↓reduceIte, Nat.reduceEqDiff, Nat.reduceAdd, Nat.reduceMul, Nat.reduceLeDiff, Nat.reduceSub, Nat.reduceLT, Int.reduceToNat, Int.reduceLT, Int.reduceLE, reduceCtorEq]
  · simp only [wSum, go_sem, Int.reduceTMod, Int.reduceTDiv, Int.reduceDiv, Int.reduceMod, Int.reduceAdd, Int.reduceSub, Int.reduceMul, Int.reduceNeg, Int.reducePow, Int.reduceEq, ↓reduceIte, Nat.reduceEqDiff, Nat.reduceAdd, Nat.reduceMul, Nat.reduceLeDiff, Nat.reduceSub, Nat.reduceLT, Int.reduceToNat, Int.reduceLT, Int.reduceLE, reduceCtorEq]
  · rfl
  · rfl

/- Polygons copied as_ the reference's, walked. Conditions: those that each theorem names. -/
open Go Go.Proofs
set_option linter.unusedSimpArgs false
set_option linter.unusedVariables false

theorem take_snoc {α : Type} {l : List α} {i : Nat} {p : α} (hp : l[i]? = some p) : l.take (i + 1) = l.take i ++ [p] := by
  rw [List.take_add_one, hp]
  rfl
theorem rd_same {m m' : Mem} {id off k : Nat} (h : m' id = m id) : rd m' id off k = rd m id off k := by
  unfold rd
  rw [h]
theorem OL.sidge {α : Type} {enc : α → List Cell} {sz base : Nat} {m : Mem} {n : Nat} {r : Reg} {l : List α} (h : OL enc sz base m n r l) {id : Nat} (hi : sid r = some id) : base ≤ id ∧ id < n := by
  rcases h with ⟨rfl, _⟩ | ⟨id', rfl, h1, h2, _⟩
  · cases hi
  · simp only [sid, Option.some.injEq] at hi
    omega
theorem OL.one {α : Type} {enc : α → List Cell} {sz base : Nat} {m : Mem} {n : Nat} {r : Reg} {l : List α} (h : OL enc sz base m n r l) : ∃ c, r = .one c := by
  rcases h with ⟨rfl, _⟩ | ⟨id', rfl, _⟩
  · exact ⟨_, rfl⟩
  · exact ⟨_, rfl⟩
/-- One record more, in a block of its own. -/
theorem K_push2 {T : Nat → Option SFun} {α : Type} {enc : α → List Cell} {sz : Nat} (hsz : ∀ x, (enc x).length = sz) (hpos : 0 < sz) {base n0 n : Nat} {m0 m : Mem} {r0 : Reg} {l : List α} {p : α} {j by' : Nat} {o : Bool} {d : Option Nat} {os : List SOper} {e : Nat → Reg} {k : Kt}
    (ho : OL enc sz base m0 n0 r0 l) (hn : n0 ≤ n) (hm : ∀ id, base ≤ id → id < n0 → m id = m0 id) (hj : m j = some ⟨enc p, o⟩) (hsm : l.length + 1 ≤ 4294967296) (hbase : base ≤ n)
    (next : ∀ c m', OL enc sz base m' (n + 1) (.one c) (l ++ [p]) → (∀ id, id < n → sid r0 ≠ some id → m' id = m id) → (∀ id, sid (.one c) = some id → id = n) → RK T os (putE e d (.one c)) m' (n + 1) k) :
    ThenK T d os e k (evApp m n sz by' r0 (.one (.sl j 0 1 (some 1) sz))) := by
  have hx : newsOf m sz (.one (.sl j 0 1 (some 1) sz)) = some (1, enc p) := by
    simp only [newsOf, if_true]
    rw [rd_of hj]
    simp [rdB, hsz]
    exact List.take_of_length_le (by rw [hsz]; exact Nat.le_refl _)
  rcases ho with ⟨rfl, rfl⟩ | ⟨id, rfl, h2, h3, h4⟩
  · simp only [evApp, hx]
    rw [if_neg (by omega), if_pos (by omega)]
    refine next _ _ (Or.inr ⟨n, rfl, hbase, by omega, ?_⟩) (fun id hid _ => upd_ne _ _ (by omega)) (fun id h => ?_)
    · rw [upd_same]
      simp
    · simp only [sid, Option.some.injEq] at h; exact h.symm
  · have h5 : m id = some ⟨l.flatMap enc, true⟩ := by rw [hm id h2 h3]; exact h4
    have hl := flatMap_len enc sz hsz l
    have h6 : rd m id 0 (l.length * sz) = some (l.flatMap enc) := by
      rw [rd_of h5]
      unfold rdB
      rw [if_pos (by rw [hl]; omega), List.drop_zero, ← hl, List.take_length]
    simp only [evApp, hx, if_true, h5, h6, Option.map_some, true_and, if_pos hsm]
    refine next _ _ (Or.inr ⟨n, by simp, hbase, by omega, ?_⟩) (fun i hi hs => ?_) (fun id h => ?_)
    · rw [upd_same]; simp
    · rw [upd_ne _ _ (by omega), upd_ne _ _ (fun e => hs (by rw [e]; rfl))]
    · simp only [sid, Option.some.injEq] at h; exact h.symm
/-- A row of polygons of the call's own. -/
def OPP (base : Nat) (m : Mem) (n : Nat) (r : Reg) (L : List (List Pt)) : Prop :=
  ∃ cs : List Cell, cs.length = L.length ∧ OL enc1 1 base m n r cs ∧ ∀ (i : Nat) (c : Cell) (l : List Pt), cs[i]? = some c → L[i]? = some l → RPt m n (.one c) l ∧ ∀ j, sid (.one c) = some j → base ≤ j ∧ j < n ∧ sid r ≠ some j
theorem OPP.keep {base : Nat} {m m' : Mem} {n n' : Nat} {r : Reg} {L : List (List Pt)} (h : OPP base m n r L) (hn : n ≤ n') (hm : ∀ id, base ≤ id → id < n → m' id = m id) : OPP base m' n' r L := by
  obtain ⟨cs, h1, h2, h3⟩ := h
  refine ⟨cs, h1, h2.keep hn hm, fun i c l hc hl => ?_⟩
  obtain ⟨k1, k2⟩ := h3 i c l hc hl
  exact ⟨k1.keep' hn (fun id hid => hm id (k2 id hid).1 (k2 id hid).2.1), fun j hj => ⟨(k2 j hj).1, by have := (k2 j hj).2.1; omega, (k2 j hj).2.2⟩⟩
theorem w_refs (r : Reg) (L : List (List Pt)) (m : Mem) (n : Nat) (hr : RPP m n r L) (hn60 : L.length ≤ 60) (hL : ∀ l ∈ L, l.length ≤ 20) :
    Fn TA 14 [r] m n (fun r' m' n' => n ≤ n' ∧ OPP n m' n' r' L) := by
  refine Fn_ofK (fn := F14) rfl (by simp [F14]) ?_
  have hlen := hr.len
  try simp only [r14_0, r14_1, r14_2, r14_3, r14_4, r14_5, r14_6, r14_7, r14_8, r14_9, r14_10, r14_11, r14_12, r14_13, c14, F14, hlen, go_sem, Int.reduceTMod, Int.reduceTDiv, Int.reduceDiv, Int.reduceMod, Int.reduceAdd, Int.reduceSub, Int.reduceMul, Int.reduceNeg, Int.reducePow, Int.reduceEq, ↓reduceIte, Nat.reduceEqDiff, Nat.reduceAdd, Nat.reduceMul, Nat.reduceLeDiff, Nat.reduceSub, Nat.reduceLT, Int.reduceToNat, Int.reduceLT, Int.reduceLE, reduceCtorEq]
  repeat' ((first | refine FK_split (fun h_ => ?_) (fun h_ => ?_) | refine GK_split (fun h_ => ?_) (fun h_ => ?_) | refine ite_both (fun h_ => ?_) (fun h_ => ?_)) <;> (try simp only [decide_eq_true_eq, decide_eq_false_iff_not, Bool.not_true, Bool.not_false, Bool.not_eq_true', Bool.not_eq_false', Bool.not_eq_eq_eq_not, Decidable.not_not] at h_) <;> (try simp only [r14_0, r14_1, r14_2, r14_3, r14_4, r14_5, r14_6, r14_7, r14_8, r14_9, r14_10, r14_11, r14_12, r14_13, c14, F14, hlen, h_, go_sem, Int.reduceTMod, Int.reduceTDiv, Int.reduceDiv, Int.reduceMod, Int.reduceAdd, Int.reduceSub, Int.reduceMul, Int.reduceNeg, Int.reducePow, Int.reduceEq, ↓reduceIte, Nat.reduceEqDiff, Nat.reduceAdd, Nat.reduceMul, Nat.reduceLeDiff, Nat.reduceSub, Nat.reduceLT, Int.reduceToNat, Int.reduceLT, Int.reduceLE, reduceCtorEq]))
  refine XK_iter (inv := fun i s => s.e 11 = RI i ∧ s.e 10 = RI L.length ∧ s.e 9 = r ∧ n ≤ s.n ∧ (∀ id, id < n → s.m id = m id) ∧ OPP n s.m s.n (s.e 3) (L.take i)) L.length
    (fun K _ => ⟨fun i hi s hs next => ?_, fun s hs => ?_⟩) 0 (by omega) _ ⟨?_, ?_, ?_, ?_, ?_, ?_⟩
  · obtain ⟨e, M, N⟩ := s
    obtain ⟨q11, q10, q9, qn, qm, qo⟩ := hs
    simp only at q11 q10 q9 qn qm qo
    have hp : L[i]? = some L[i] := List.getElem?_eq_getElem hi
    have hrM : RPP M N r L := hr.keep qn qm
    obtain ⟨id, off, cap, b, c0, hr1, hid, hb, hbc, hc⟩ := hrM.at hp
    have hl20 := hL _ (List.getElem_mem hi)
    have hts := take_snoc hp
    generalize L[i] = l at *
    have c2 : ((i : Int) < (L.length : Int)) = True := eq_true (by omega)
    have c3 : (0 ≤ (i : Int)) = True := eq_true (by omega)
    have c7 : IntKind.i64.wrap ((i : Int) + 1) = ((i + 1 : Nat) : Int) := wr_nat (by omega)
    have q9' := q9
    rw [hr1] at q9'
    have hlc := hc.len
    try simp only [r14_0, r14_1, r14_2, r14_3, r14_4, r14_5, r14_6, r14_7, r14_8, r14_9, r14_10, r14_11, r14_12, r14_13, c14, F14, l14_1, q11, q10, q9', c2, c3, hb, hbc, hlc, Int.toNat_natCast, Nat.mul_one, go_sem, Int.reduceTMod, Int.reduceTDiv, Int.reduceDiv, Int.reduceMod, Int.reduceAdd, Int.reduceSub, Int.reduceMul, Int.reduceNeg, Int.reducePow, Int.reduceEq, ↓reduceIte, Nat.reduceEqDiff, Nat.reduceAdd, Nat.reduceMul, Nat.reduceLeDiff, Nat.reduceSub, Nat.reduceLT, Int.reduceToNat, Int.reduceLT, Int.reduceLE, reduceCtorEq]
    repeat' ((first | refine FK_split (fun h_ => ?_) (fun h_ => ?_) | refine GK_split (fun h_ => ?_) (fun h_ => ?_) | refine ite_both (fun h_ => ?_) (fun h_ => ?_)) <;> (try simp only [decide_eq_true_eq, decide_eq_false_iff_not, Bool.not_true, Bool.not_false, Bool.not_eq_true', Bool.not_eq_false', Bool.not_eq_eq_eq_not, Decidable.not_not] at h_) <;> (try simp only [r14_0, r14_1, r14_2, r14_3, r14_4, r14_5, r14_6, r14_7, r14_8, r14_9, r14_10, r14_11, r14_12, r14_13, c14, F14, l14_1, q11, q10, q9', c2, c3, hb, hbc, hlc, Int.toNat_natCast, Nat.mul_one, h_, go_sem, Int.reduceTMod, Int.reduceTDiv, Int.reduceDiv, Int.reduceMod, Int.reduceAdd, Int.reduceSub, Int.reduceMul, Int.reduceNeg, Int.reducePow, Int.reduceEq, ↓reduceIte, Nat.reduceEqDiff, Nat.reduceAdd, Nat.reduceMul, Nat.reduceLeDiff, Nat.reduceSub, Nat.reduceLT, Int.reduceToNat, Int.reduceLT, Int.reduceLE, reduceCtorEq]))
    refine XK_iter (inv := fun j s => s.e 17 = RI j ∧ s.e 16 = RI l.length ∧ s.e 15 = .one c0 ∧ s.e 11 = RI i ∧ s.e 10 = RI L.length ∧ s.e 9 = r ∧ s.e 3 = e 3 ∧ N ≤ s.n ∧ (∀ id, id < N → s.m id = M id) ∧ OL Pt.cs 2 N s.m s.n (s.e 6) (l.take j)) l.length
      (fun K2 _ => ⟨fun j hj s hs next2 => ?_, fun s hs => ?_⟩) 0 (by omega) _ ⟨?_, ?_, ?_, ?_, ?_, ?_, ?_, ?_, ?_, ?_⟩
    · obtain ⟨e4, M4, N4⟩ := s
      obtain ⟨t17, t16, t15, t11, t10, t9, t3, tn, tm, tO⟩ := hs
      simp only at t17 t16 t15 t11 t10 t9 t3 tn tm tO
      have hpj : l[j]? = some l[j] := List.getElem?_eq_getElem hj
      have hcR : RPt M N (.one c0) l := hc.resolve_right (fun h => by obtain ⟨a, _, h2⟩ := h; rw [h2] at hj; simp at hj)
      obtain ⟨id2, off2, cap2, e2, hid2, hrd⟩ := (hcR.keep tn tm).at cs2 hpj
      have htj := take_snoc hpj
      generalize l[j] = p at *
      have g1 : ((j : Int) < (l.length : Int)) = True := eq_true (by omega)
      have g2 : (0 ≤ (j : Int)) = True := eq_true (by omega)
      have g5 : IntKind.i64.wrap ((j : Int) + 1) = ((j + 1 : Nat) : Int) := wr_nat (by omega)
      have t15' := t15
      rw [e2] at t15'
      try simp only [r14_0, r14_1, r14_2, r14_3, r14_4, r14_5, r14_6, r14_7, r14_8, r14_9, r14_10, r14_11, r14_12, r14_13, c14, F14, l14_0, t17, t16, t15', g1, g2, hrd, Int.toNat_natCast, go_sem, Int.reduceTMod, Int.reduceTDiv, Int.reduceDiv, Int.reduceMod, Int.reduceAdd, Int.reduceSub, Int.reduceMul, Int.reduceNeg, Int.reducePow, Int.reduceEq, ↓reduceIte, Nat.reduceEqDiff, Nat.reduceAdd, Nat.reduceMul, Nat.reduceLeDiff, Nat.reduceSub, Nat.reduceLT, Int.reduceToNat, Int.reduceLT, Int.reduceLE, reduceCtorEq]
      repeat' ((first | refine FK_split (fun h_ => ?_) (fun h_ => ?_) | refine GK_split (fun h_ => ?_) (fun h_ => ?_) | refine ite_both (fun h_ => ?_) (fun h_ => ?_)) <;> (try simp only [decide_eq_true_eq, decide_eq_false_iff_not, Bool.not_true, Bool.not_false, Bool.not_eq_true', Bool.not_eq_false', Bool.not_eq_eq_eq_not, Decidable.not_not] at h_) <;> (try simp only [r14_0, r14_1, r14_2, r14_3, r14_4, r14_5, r14_6, r14_7, r14_8, r14_9, r14_10, r14_11, r14_12, r14_13, c14, F14, l14_0, t17, t16, t15', g1, g2, hrd, Int.toNat_natCast, h_, go_sem, Int.reduceTMod, Int.reduceTDiv, Int.reduceDiv, Int.reduceMod, Int.reduceAdd, Int.reduceSub, Int.reduceMul, Int.reduceNeg, Int.reducePow, Int.reduceEq, ↓reduceIte, Nat.reduceEqDiff, Nat.reduceAdd, Nat.reduceMul, Nat.reduceLeDiff, Nat.reduceSub, Nat.reduceLT, Int.reduceToNat, Int.reduceLT, Int.reduceLE, reduceCtorEq]))
      refine K_push cs2 (by decide) (p := p) (o := true) tO (by omega) (fun id h1 h2 => by simp only [nadd, na_eq, na_0 h2, na_0 (show id < N4 + 1 by omega), go_sem, Int.reduceTMod, Int.reduceTDiv, Int.reduceDiv, Int.reduceMod, Int.reduceAdd, Int.reduceSub, Int.reduceMul, Int.reduceNeg, Int.reducePow, Int.reduceEq, ↓reduceIte, Nat.reduceEqDiff, Nat.reduceAdd, Nat.reduceMul, Nat.reduceLeDiff, Nat.reduceSub, Nat.reduceLT, Int.reduceToNat, Int.reduceLT, Int.reduceLE, reduceCtorEq]) (by simp only [nadd, na_eq, go_sem, Int.reduceTMod, Int.reduceTDiv, Int.reduceDiv, Int.reduceMod, Int.reduceAdd, Int.reduceSub, Int.reduceMul, Int.reduceNeg, Int.reducePow, Int.reduceEq, ↓reduceIte, Nat.reduceEqDiff, Nat.reduceAdd, Nat.reduceMul, Nat.reduceLeDiff, Nat.reduceSub, Nat.reduceLT, Int.reduceToNat, Int.reduceLT, Int.reduceLE, reduceCtorEq]) (by rw [List.length_take]; omega) (by omega) ?_
      intro r' m' ho h1 h2
      try simp only [r14_0, r14_1, r14_2, r14_3, r14_4, r14_5, r14_6, r14_7, r14_8, r14_9, r14_10, r14_11, r14_12, r14_13, c14, F14, t17, g5, go_sem, Int.reduceTMod, Int.reduceTDiv, Int.reduceDiv, Int.reduceMod, Int.reduceAdd, Int.reduceSub, Int.reduceMul, Int.reduceNeg, Int.reducePow, Int.reduceEq, ↓reduceIte, Nat.reduceEqDiff, Nat.reduceAdd, Nat.reduceMul, Nat.reduceLeDiff, Nat.reduceSub, Nat.reduceLT, Int.reduceToNat, Int.reduceLT, Int.reduceLE, reduceCtorEq]
      repeat' ((first | refine FK_split (fun h_ => ?_) (fun h_ => ?_) | refine GK_split (fun h_ => ?_) (fun h_ => ?_) | refine ite_both (fun h_ => ?_) (fun h_ => ?_)) <;> (try simp only [decide_eq_true_eq, decide_eq_false_iff_not, Bool.not_true, Bool.not_false, Bool.not_eq_true', Bool.not_eq_false', Bool.not_eq_eq_eq_not, Decidable.not_not] at h_) <;> (try simp only [r14_0, r14_1, r14_2, r14_3, r14_4, r14_5, r14_6, r14_7, r14_8, r14_9, r14_10, r14_11, r14_12, r14_13, c14, F14, t17, g5, h_, go_sem, Int.reduceTMod, Int.reduceTDiv, Int.reduceDiv, Int.reduceMod, Int.reduceAdd, Int.reduceSub, Int.reduceMul, Int.reduceNeg, Int.reducePow, Int.reduceEq, ↓reduceIte, Nat.reduceEqDiff, Nat.reduceAdd, Nat.reduceMul, Nat.reduceLeDiff, Nat.reduceSub, Nat.reduceLT, Int.reduceToNat, Int.reduceLT, Int.reduceLE, reduceCtorEq]))
      refine next2 _ ⟨?_, ?_, ?_, ?_, ?_, ?_, ?_, ?_, ?_, ?_⟩
      · simp only [go_sem, Int.reduceTMod, Int.reduceTDiv, Int.reduceDiv, Int.reduceMod, Int.reduceAdd, Int.reduceSub, Int.reduceMul, Int.reduceNeg, Int.reducePow, Int.reduceEq, ↓reduceIte, Nat.reduceEqDiff, Nat.reduceAdd, Nat.reduceMul, Nat.reduceLeDiff, Nat.reduceSub, Nat.reduceLT, Int.reduceToNat, Int.reduceLT, Int.reduceLE, reduceCtorEq]
      · simp only [t16, go_sem, Int.reduceTMod, Int.reduceTDiv, Int.reduceDiv, Int.reduceMod, Int.reduceAdd, Int.reduceSub, Int.reduceMul, Int.reduceNeg, Int.reducePow, Int.reduceEq, ↓reduceIte, Nat.reduceEqDiff, Nat.reduceAdd, Nat.reduceMul, Nat.reduceLeDiff, Nat.reduceSub, Nat.reduceLT, Int.reduceToNat, Int.reduceLT, Int.reduceLE, reduceCtorEq]
      · simp only [t15, go_sem, Int.reduceTMod, Int.reduceTDiv, Int.reduceDiv, Int.reduceMod, Int.reduceAdd, Int.reduceSub, Int.reduceMul, Int.reduceNeg, Int.reducePow, Int.reduceEq, ↓reduceIte, Nat.reduceEqDiff, Nat.reduceAdd, Nat.reduceMul, Nat.reduceLeDiff, Nat.reduceSub, Nat.reduceLT, Int.reduceToNat, Int.reduceLT, Int.reduceLE, reduceCtorEq]
      · simp only [t11, go_sem, Int.reduceTMod, Int.reduceTDiv, Int.reduceDiv, Int.reduceMod, Int.reduceAdd, Int.reduceSub, Int.reduceMul, Int.reduceNeg, Int.reducePow, Int.reduceEq, ↓reduceIte, Nat.reduceEqDiff, Nat.reduceAdd, Nat.reduceMul, Nat.reduceLeDiff, Nat.reduceSub, Nat.reduceLT, Int.reduceToNat, Int.reduceLT, Int.reduceLE, reduceCtorEq]
      · simp only [t10, go_sem, Int.reduceTMod, Int.reduceTDiv, Int.reduceDiv, Int.reduceMod, Int.reduceAdd, Int.reduceSub, Int.reduceMul, Int.reduceNeg, Int.reducePow, Int.reduceEq, ↓reduceIte, Nat.reduceEqDiff, Nat.reduceAdd, Nat.reduceMul, Nat.reduceLeDiff, Nat.reduceSub, Nat.reduceLT, Int.reduceToNat, Int.reduceLT, Int.reduceLE, reduceCtorEq]
      · simp only [t9, go_sem, Int.reduceTMod, Int.reduceTDiv, Int.reduceDiv, Int.reduceMod, Int.reduceAdd, Int.reduceSub, Int.reduceMul, Int.reduceNeg, Int.reducePow, Int.reduceEq, ↓reduceIte, Nat.reduceEqDiff, Nat.reduceAdd, Nat.reduceMul, Nat.reduceLeDiff, Nat.reduceSub, Nat.reduceLT, Int.reduceToNat, Int.reduceLT, Int.reduceLE, reduceCtorEq]
      · simp only [t3, go_sem, Int.reduceTMod, Int.reduceTDiv, Int.reduceDiv, Int.reduceMod, Int.reduceAdd, Int.reduceSub, Int.reduceMul, Int.reduceNeg, Int.reducePow, Int.reduceEq, ↓reduceIte, Nat.reduceEqDiff, Nat.reduceAdd, Nat.reduceMul, Nat.reduceLeDiff, Nat.reduceSub, Nat.reduceLT, Int.reduceToNat, Int.reduceLT, Int.reduceLE, reduceCtorEq]
      · simp only; omega
      · intro id hid
        simp only
        rw [h1 id hid]
        simp only [nadd, na_eq, na_0 (show id < N4 by omega), na_0 (show id < N4 + 1 by omega), tm id hid, go_sem, Int.reduceTMod, Int.reduceTDiv, Int.reduceDiv, Int.reduceMod, Int.reduceAdd, Int.reduceSub, Int.reduceMul, Int.reduceNeg, Int.reducePow, Int.reduceEq, ↓reduceIte, Nat.reduceEqDiff, Nat.reduceAdd, Nat.reduceMul, Nat.reduceLeDiff, Nat.reduceSub, Nat.reduceLT, Int.reduceToNat, Int.reduceLT, Int.reduceLE, reduceCtorEq]
      · simp only [go_sem, Int.reduceTMod, Int.reduceTDiv, Int.reduceDiv, Int.reduceMod, Int.reduceAdd, Int.reduceSub, Int.reduceMul, Int.reduceNeg, Int.reducePow, Int.reduceEq, ↓reduceIte, Nat.reduceEqDiff, Nat.reduceAdd, Nat.reduceMul, Nat.reduceLeDiff, Nat.reduceSub, Nat.reduceLT, Int.reduceToNat, Int.reduceLT, Int.reduceLE, reduceCtorEq]
        rw [htj]
        exact ho
    · obtain ⟨e4, M4, N4⟩ := s
      obtain ⟨t17, t16, t15, t11, t10, t9, t3, tn, tm, tO⟩ := hs
      simp only at t17 t16 t15 t11 t10 t9 t3 tn tm tO
      have g1 : ((l.length : Int) < (l.length : Int)) = False := eq_false (by omega)
      rw [List.take_length] at tO
      obtain ⟨cs, k1, k2, k3⟩ := qo.keep tn (fun id _ h => tm id h)
      obtain ⟨cx, hcx⟩ := tO.one
      rw [hcx] at tO
      have hlcs : cs.length = i := by rw [k1, List.length_take]; omega
      try simp only [r14_0, r14_1, r14_2, r14_3, r14_4, r14_5, r14_6, r14_7, r14_8, r14_9, r14_10, r14_11, r14_12, r14_13, c14, F14, l14_0, t17, t16, t3, hcx, g1, go_sem, Int.reduceTMod, Int.reduceTDiv, Int.reduceDiv, Int.reduceMod, Int.reduceAdd, Int.reduceSub, Int.reduceMul, Int.reduceNeg, Int.reducePow, Int.reduceEq, ↓reduceIte, Nat.reduceEqDiff, Nat.reduceAdd, Nat.reduceMul, Nat.reduceLeDiff, Nat.reduceSub, Nat.reduceLT, Int.reduceToNat, Int.reduceLT, Int.reduceLE, reduceCtorEq]
      repeat' ((first | refine FK_split (fun h_ => ?_) (fun h_ => ?_) | refine GK_split (fun h_ => ?_) (fun h_ => ?_) | refine ite_both (fun h_ => ?_) (fun h_ => ?_)) <;> (try simp only [decide_eq_true_eq, decide_eq_false_iff_not, Bool.not_true, Bool.not_false, Bool.not_eq_true', Bool.not_eq_false', Bool.not_eq_eq_eq_not, Decidable.not_not] at h_) <;> (try simp only [r14_0, r14_1, r14_2, r14_3, r14_4, r14_5, r14_6, r14_7, r14_8, r14_9, r14_10, r14_11, r14_12, r14_13, c14, F14, l14_0, t17, t16, t3, hcx, g1, h_, go_sem, Int.reduceTMod, Int.reduceTDiv, Int.reduceDiv, Int.reduceMod, Int.reduceAdd, Int.reduceSub, Int.reduceMul, Int.reduceNeg, Int.reducePow, Int.reduceEq, ↓reduceIte, Nat.reduceEqDiff, Nat.reduceAdd, Nat.reduceMul, Nat.reduceLeDiff, Nat.reduceSub, Nat.reduceLT, Int.reduceToNat, Int.reduceLT, Int.reduceLE, reduceCtorEq]))
      refine K_push2 (enc := enc1) ce1 (by decide) (p := cx) (o := true) k2 (show N4 ≤ N4 + 1 by omega) (fun id h1 h2 => by simp only [na_0 h2, go_sem, Int.reduceTMod, Int.reduceTDiv, Int.reduceDiv, Int.reduceMod, Int.reduceAdd, Int.reduceSub, Int.reduceMul, Int.reduceNeg, Int.reducePow, Int.reduceEq, ↓reduceIte, Nat.reduceEqDiff, Nat.reduceAdd, Nat.reduceMul, Nat.reduceLeDiff, Nat.reduceSub, Nat.reduceLT, Int.reduceToNat, Int.reduceLT, Int.reduceLE, reduceCtorEq]) (by simp only [go_sem, Int.reduceTMod, Int.reduceTDiv, Int.reduceDiv, Int.reduceMod, Int.reduceAdd, Int.reduceSub, Int.reduceMul, Int.reduceNeg, Int.reducePow, Int.reduceEq, ↓reduceIte, Nat.reduceEqDiff, Nat.reduceAdd, Nat.reduceMul, Nat.reduceLeDiff, Nat.reduceSub, Nat.reduceLT, Int.reduceToNat, Int.reduceLT, Int.reduceLE, reduceCtorEq]) (by omega) (by omega) ?_
      intro c' m' ho h2 h3
      try simp only [r14_0, r14_1, r14_2, r14_3, r14_4, r14_5, r14_6, r14_7, r14_8, r14_9, r14_10, r14_11, r14_12, r14_13, c14, F14, t11, c7, go_sem, Int.reduceTMod, Int.reduceTDiv, Int.reduceDiv, Int.reduceMod, Int.reduceAdd, Int.reduceSub, Int.reduceMul, Int.reduceNeg, Int.reducePow, Int.reduceEq, ↓reduceIte, Nat.reduceEqDiff, Nat.reduceAdd, Nat.reduceMul, Nat.reduceLeDiff, Nat.reduceSub, Nat.reduceLT, Int.reduceToNat, Int.reduceLT, Int.reduceLE, reduceCtorEq]
      repeat' ((first | refine FK_split (fun h_ => ?_) (fun h_ => ?_) | refine GK_split (fun h_ => ?_) (fun h_ => ?_) | refine ite_both (fun h_ => ?_) (fun h_ => ?_)) <;> (try simp only [decide_eq_true_eq, decide_eq_false_iff_not, Bool.not_true, Bool.not_false, Bool.not_eq_true', Bool.not_eq_false', Bool.not_eq_eq_eq_not, Decidable.not_not] at h_) <;> (try simp only [r14_0, r14_1, r14_2, r14_3, r14_4, r14_5, r14_6, r14_7, r14_8, r14_9, r14_10, r14_11, r14_12, r14_13, c14, F14, t11, c7, h_, go_sem, Int.reduceTMod, Int.reduceTDiv, Int.reduceDiv, Int.reduceMod, Int.reduceAdd, Int.reduceSub, Int.reduceMul, Int.reduceNeg, Int.reducePow, Int.reduceEq, ↓reduceIte, Nat.reduceEqDiff, Nat.reduceAdd, Nat.reduceMul, Nat.reduceLeDiff, Nat.reduceSub, Nat.reduceLT, Int.reduceToNat, Int.reduceLT, Int.reduceLE, reduceCtorEq]))
      have hfr : ∀ j, j < N4 → sid (e 3) ≠ some j → m' j = M4 j := fun j hj hs => by
        rw [h2 j (by omega) hs]
        exact upd_ne _ _ (by omega)
      refine next _ ⟨?_, ?_, ?_, ?_, ?_, ?_⟩
      · simp only [go_sem, Int.reduceTMod, Int.reduceTDiv, Int.reduceDiv, Int.reduceMod, Int.reduceAdd, Int.reduceSub, Int.reduceMul, Int.reduceNeg, Int.reducePow, Int.reduceEq, ↓reduceIte, Nat.reduceEqDiff, Nat.reduceAdd, Nat.reduceMul, Nat.reduceLeDiff, Nat.reduceSub, Nat.reduceLT, Int.reduceToNat, Int.reduceLT, Int.reduceLE, reduceCtorEq]
      · simp only [t10, go_sem, Int.reduceTMod, Int.reduceTDiv, Int.reduceDiv, Int.reduceMod, Int.reduceAdd, Int.reduceSub, Int.reduceMul, Int.reduceNeg, Int.reducePow, Int.reduceEq, ↓reduceIte, Nat.reduceEqDiff, Nat.reduceAdd, Nat.reduceMul, Nat.reduceLeDiff, Nat.reduceSub, Nat.reduceLT, Int.reduceToNat, Int.reduceLT, Int.reduceLE, reduceCtorEq]
      · simp only [t9, go_sem, Int.reduceTMod, Int.reduceTDiv, Int.reduceDiv, Int.reduceMod, Int.reduceAdd, Int.reduceSub, Int.reduceMul, Int.reduceNeg, Int.reducePow, Int.reduceEq, ↓reduceIte, Nat.reduceEqDiff, Nat.reduceAdd, Nat.reduceMul, Nat.reduceLeDiff, Nat.reduceSub, Nat.reduceLT, Int.reduceToNat, Int.reduceLT, Int.reduceLE, reduceCtorEq]
      · simp only; omega
      · intro id hid
        simp only
        rw [hfr id (by omega) (fun h => by have := k2.sidge h; omega), tm id (by omega)]
        exact qm id hid
      · simp only [go_sem, Int.reduceTMod, Int.reduceTDiv, Int.reduceDiv, Int.reduceMod, Int.reduceAdd, Int.reduceSub, Int.reduceMul, Int.reduceNeg, Int.reducePow, Int.reduceEq, ↓reduceIte, Nat.reduceEqDiff, Nat.reduceAdd, Nat.reduceMul, Nat.reduceLeDiff, Nat.reduceSub, Nat.reduceLT, Int.reduceToNat, Int.reduceLT, Int.reduceLE, reduceCtorEq]
        rw [hts]
        have hr'1 : ∀ j, sid (.one c') = some j → N4 + 1 ≤ j := fun j hj => by rw [h3 j hj]; exact Nat.le_refl _
        refine ⟨cs ++ [cx], by rw [List.length_append, List.length_append, k1]; rfl, ho, fun k c l' hc' hl' => ?_⟩
        by_cases hk : k < i
        · rw [List.getElem?_append_left (by omega)] at hc'
          rw [List.getElem?_append_left (by rw [List.length_take]; omega)] at hl'
          obtain ⟨y1, y2⟩ := k3 k c l' hc' hl'
          refine ⟨y1.keep' (by omega) (fun id hid => hfr id (y2 id hid).2.1 (y2 id hid).2.2), fun j hj => ⟨(y2 j hj).1, by have := (y2 j hj).2.1; omega, fun h => ?_⟩⟩
          have := hr'1 j h
          have := (y2 j hj).2.1
          omega
        · have hk' : k = i := by
            have := (List.getElem?_eq_some_iff.1 hc').1
            simp at this
            omega
          subst hk'
          rw [List.getElem?_append_right (by omega), hlcs, Nat.sub_self] at hc'
          rw [List.getElem?_append_right (by rw [List.length_take]; omega)] at hl'
          simp at hc'
          have : k - (L.take k).length = 0 := by rw [List.length_take]; omega
          rw [this] at hl'
          simp at hl'
          subst hc'
          subst hl'
          have hge := fun j (hj : sid (.one cx) = some j) => tO.sidge hj
          refine ⟨(tO.rl cs2).keep' (by omega) (fun id hid => hfr id (hge id hid).2 (fun h => ?_)), fun j hj => ⟨by have := (hge j hj).1; omega, by have := (hge j hj).2; omega, fun h => ?_⟩⟩
          · obtain ⟨cs0, _, z2, _⟩ := qo
            have := (z2.sidge h).2
            have := (hge id hid).1
            omega
          · have := hr'1 j h
            have := (hge j hj).2
            omega
    · simp only [go_sem, Int.reduceTMod, Int.reduceTDiv, Int.reduceDiv, Int.reduceMod, Int.reduceAdd, Int.reduceSub, Int.reduceMul, Int.reduceNeg, Int.reducePow, Int.reduceEq, ↓reduceIte, Nat.reduceEqDiff, Nat.reduceAdd, Nat.reduceMul, Nat.reduceLeDiff, Nat.reduceSub, Nat.reduceLT, Int.reduceToNat, Int.reduceLT, Int.reduceLE, reduceCtorEq]
    · simp only [go_sem, Int.reduceTMod, Int.reduceTDiv, Int.reduceDiv, Int.reduceMod, Int.reduceAdd, Int.reduceSub, Int.reduceMul, Int.reduceNeg, Int.reducePow, Int.reduceEq, ↓reduceIte, Nat.reduceEqDiff, Nat.reduceAdd, Nat.reduceMul, Nat.reduceLeDiff, Nat.reduceSub, Nat.reduceLT, Int.reduceToNat, Int.reduceLT, Int.reduceLE, reduceCtorEq]
    · simp only [go_sem, Int.reduceTMod, Int.reduceTDiv, Int.reduceDiv, Int.reduceMod, Int.reduceAdd, Int.reduceSub, Int.reduceMul, Int.reduceNeg, Int.reducePow, Int.reduceEq, ↓reduceIte, Nat.reduceEqDiff, Nat.reduceAdd, Nat.reduceMul, Nat.reduceLeDiff, Nat.reduceSub, Nat.reduceLT, Int.reduceToNat, Int.reduceLT, Int.reduceLE, reduceCtorEq]
    · simp only [q11, go_sem, Int.reduceTMod, Int.reduceTDiv, Int.reduceDiv, Int.reduceMod, Int.reduceAdd, Int.reduceSub, Int.reduceMul, Int.reduceNeg, Int.reducePow, Int.reduceEq, ↓reduceIte, Nat.reduceEqDiff, Nat.reduceAdd, Nat.reduceMul, Nat.reduceLeDiff, Nat.reduceSub, Nat.reduceLT, Int.reduceToNat, Int.reduceLT, Int.reduceLE, reduceCtorEq]
    · simp only [q10, go_sem, Int.reduceTMod, Int.reduceTDiv, Int.reduceDiv, Int.reduceMod, Int.reduceAdd, Int.reduceSub, Int.reduceMul, Int.reduceNeg, Int.reducePow, Int.reduceEq, ↓reduceIte, Nat.reduceEqDiff, Nat.reduceAdd, Nat.reduceMul, Nat.reduceLeDiff, Nat.reduceSub, Nat.reduceLT, Int.reduceToNat, Int.reduceLT, Int.reduceLE, reduceCtorEq]
    · simp only [q9, go_sem, Int.reduceTMod, Int.reduceTDiv, Int.reduceDiv, Int.reduceMod, Int.reduceAdd, Int.reduceSub, Int.reduceMul, Int.reduceNeg, Int.reducePow, Int.reduceEq, ↓reduceIte, Nat.reduceEqDiff, Nat.reduceAdd, Nat.reduceMul, Nat.reduceLeDiff, Nat.reduceSub, Nat.reduceLT, Int.reduceToNat, Int.reduceLT, Int.reduceLE, reduceCtorEq]
    · simp only [go_sem, Int.reduceTMod, Int.reduceTDiv, Int.reduceDiv, Int.reduceMod, Int.reduceAdd, Int.reduceSub, Int.reduceMul, Int.reduceNeg, Int.reducePow, Int.reduceEq, ↓reduceIte, Nat.reduceEqDiff, Nat.reduceAdd, Nat.reduceMul, Nat.reduceLeDiff, Nat.reduceSub, Nat.reduceLT, Int.reduceToNat, Int.reduceLT, Int.reduceLE, reduceCtorEq]
    · exact Nat.le_refl _
    · exact fun _ _ => rfl
    · simp only [List.take_zero, go_sem, Int.reduceTMod, Int.reduceTDiv, Int.reduceDiv, Int.reduceMod, Int.reduceAdd, Int.reduceSub, Int.reduceMul, Int.reduceNeg, Int.reducePow, Int.reduceEq, ↓reduceIte, Nat.reduceEqDiff, Nat.reduceAdd, Nat.reduceMul, Nat.reduceLeDiff, Nat.reduceSub, Nat.reduceLT, Int.reduceToNat, Int.reduceLT, Int.reduceLE, reduceCtorEq]
      exact OL.nil
  · obtain ⟨e, M, N⟩ := s
    obtain ⟨q11, q10, q9, qn, qm, qo⟩ := hs
    simp only at q11 q10 q9 qn qm qo
    have c2 : ((L.length : Int) < (L.length : Int)) = False := eq_false (by omega)
    rw [List.take_length] at qo
    try simp only [r14_0, r14_1, r14_2, r14_3, r14_4, r14_5, r14_6, r14_7, r14_8, r14_9, r14_10, r14_11, r14_12, r14_13, c14, F14, l14_1, q11, q10, c2, go_sem, Int.reduceTMod, Int.reduceTDiv, Int.reduceDiv, Int.reduceMod, Int.reduceAdd, Int.reduceSub, Int.reduceMul, Int.reduceNeg, Int.reducePow, Int.reduceEq, ↓reduceIte, Nat.reduceEqDiff, Nat.reduceAdd, Nat.reduceMul, Nat.reduceLeDiff, Nat.reduceSub, Nat.reduceLT, Int.reduceToNat, Int.reduceLT, Int.reduceLE, reduceCtorEq]
    repeat' ((first | refine FK_split (fun h_ => ?_) (fun h_ => ?_) | refine GK_split (fun h_ => ?_) (fun h_ => ?_) | refine ite_both (fun h_ => ?_) (fun h_ => ?_)) <;> (try simp only [decide_eq_true_eq, decide_eq_false_iff_not, Bool.not_true, Bool.not_false, Bool.not_eq_true', Bool.not_eq_false', Bool.not_eq_eq_eq_not, Decidable.not_not] at h_) <;> (try simp only [r14_0, r14_1, r14_2, r14_3, r14_4, r14_5, r14_6, r14_7, r14_8, r14_9, r14_10, r14_11, r14_12, r14_13, c14, F14, l14_1, q11, q10, c2, h_, go_sem, Int.reduceTMod, Int.reduceTDiv, Int.reduceDiv, Int.reduceMod, Int.reduceAdd, Int.reduceSub, Int.reduceMul, Int.reduceNeg, Int.reducePow, Int.reduceEq, ↓reduceIte, Nat.reduceEqDiff, Nat.reduceAdd, Nat.reduceMul, Nat.reduceLeDiff, Nat.reduceSub, Nat.reduceLT, Int.reduceToNat, Int.reduceLT, Int.reduceLE, reduceCtorEq]))
    exact ⟨qn, qo⟩
  · simp only [go_sem, Int.reduceTMod, Int.reduceTDiv, Int.reduceDiv, Int.reduceMod, Int.reduceAdd, Int.reduceSub, Int.reduceMul, Int.reduceNeg, Int.reducePow, Int.reduceEq, ↓reduceIte, Nat.reduceEqDiff, Nat.reduceAdd, Nat.reduceMul, Nat.reduceLeDiff, Nat.reduceSub, Nat.reduceLT, Int.reduceToNat, Int.reduceLT, Int.reduceLE, reduceCtorEq]
  · simp only [go_sem, Int.reduceTMod, Int.reduceTDiv, Int.reduceDiv, Int.reduceMod, Int.reduceAdd, Int.reduceSub, Int.reduceMul, Int.reduceNeg, Int.reducePow, Int.reduceEq, ↓reduceIte, Nat.reduceEqDiff, Nat.reduceAdd, Nat.reduceMul, Nat.reduceLeDiff, Nat.reduceSub, Nat.reduceLT, Int.reduceToNat, Int.reduceLT, Int.reduceLE, reduceCtorEq]
  · simp only [go_sem, Int.reduceTMod, Int.reduceTDiv, Int.reduceDiv, Int.reduceMod, Int.reduceAdd, Int.reduceSub, Int.reduceMul, Int.reduceNeg, Int.reducePow, Int.reduceEq, ↓reduceIte, Nat.reduceEqDiff, Nat.reduceAdd, Nat.reduceMul, Nat.reduceLeDiff, Nat.reduceSub, Nat.reduceLT, Int.reduceToNat, Int.reduceLT, Int.reduceLE, reduceCtorEq]
  · exact Nat.le_refl _
  · exact fun _ _ => rfl
  · simp only [List.take_zero, go_sem, Int.reduceTMod, Int.reduceTDiv, Int.reduceDiv, Int.reduceMod, Int.reduceAdd, Int.reduceSub, Int.reduceMul, Int.reduceNeg, Int.reducePow, Int.reduceEq, ↓reduceIte, Nat.reduceEqDiff, Nat.reduceAdd, Nat.reduceMul, Nat.reduceLeDiff, Nat.reduceSub, Nat.reduceLT, Int.reduceToNat, Int.reduceLT, Int.reduceLE, reduceCtorEq]
    exact ⟨[], rfl, OL.nil, fun i c l h => by simp at h⟩

end Go.Proofs.Ytkdbnmohpanpfaa.Sy
