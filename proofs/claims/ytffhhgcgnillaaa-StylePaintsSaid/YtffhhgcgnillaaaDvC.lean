/- Package math/bits walked: two words divided by one, to the end. Conditions: those that each theorem names. -/
import Derived.Test.YtffhhgcgnillaaaDvB
namespace Go.Proofs.Ytffhhgcgnillaaa.Sy
open Go Go.Proofs Go.RowKit
set_option linter.unusedSimpArgs false
set_option linter.unusedVariables false
set_option maxRecDepth 20000
attribute [local go_sem] XK_seq XK_block XK_skip XK_exit XK_ret XK_cond XK_reg XK_dreg XK_ureg KN_seq KN_blk KN_lp KN_chk KN_chku KN_top KN_fin KX_seq KX_lp KX_blk KX_chk KX_top KR_seq KR_blk KR_lp KR_chk KR_top KR_fin FK_true FK_false RK_nil RK_mv RK_pick RK_alloc RK_box RK_build RK_bslice RK_load1 RK_loadA RK_store RK_nilchk RK_bin RK_beq RK_eqv RK_eqnil RK_un RK_conv RK_mkfn RK_mkslice RK_slS RK_slA RK_fadr RK_fld RK_iadrA RK_iadrS RK_idxA RK_istr RK_ext RK_lenC RK_cap RK_app RK_appz RK_pre RK_cpy RK_mn RK_mx RK_len RK_carry RK_clr carryR um0 um1 ThenK_some RK_guard GK_tt GK_ff GK_tf GK_ft GK_none QK_some RK_callQ RK_callZ RK_callT TK_some VK_clo RK_callV
  evalOp evO evOs upd_at unfrz_at putE_some putE_none boolOf_b boolOf_tup Option.map_some evRes pack_one pack_two pack_three pack_none List.getD_cons_zero List.getD_cons_succ getD_nil
  Option.some.injEq exists_eq_left' Reg.cs? fillC setL List.set_cons_zero List.set_cons_succ List.length_cons List.length_nil rd_upd rd_updn rdB wr List.drop_zero List.drop_succ_cons List.take_succ_cons List.take_zero List.getElem?_cons_zero List.getElem?_cons_succ
  ix Int.toNat_zero lenO_sl lenO_nil nadd na_eq na_eq' na_lt na_ee na_ll na_ne na_ne' na_tt
attribute [local go_sem] Reg.flat_one Reg.flat_agg Reg.flat_tup flats_nil flats_cons Cell.flat_sc Cell.flat_ptr List.all_cons List.all_nil disOk safeOk safeR decide_eq_true_eq decide_eq_false_iff_not
  List.map_cons List.map_nil List.cons_append List.nil_append List.append_nil evalOp.capsOf Bool.false_bne Bool.bne_false Bool.true_bne Bool.bne_true bne_self_eq_false beq_self_eq_true Bool.not_not Bool.false_and Bool.and_false Bool.true_or Bool.or_true beq_iff_eq eqCells
  Bool.true_beq Bool.false_beq Bool.not_eq_true' Bool.not_eq_eq_eq_not Bool.not_eq_false' and_false false_and frz_at idOf noId Option.isSome_some Bool.and_eq_true
attribute [local go_sem] wr_eq bV_add bV_sub bV_mul bV_eql bV_neq bV_lss bV_leq bV_gtr bV_geq bV_quo bV_rem bV_shr bV_shl uV_not uV_neg wrapU bits_and bits_or bits_xor IntKind.bits Nat.min_eq_left Nat.min_eq_right Nat.min_self
attribute [local go_sem] bne_iff_ne Int.cast_ofNat_Int Nat.zero_add Nat.add_zero and_self and_true true_and ne_eq not_false_eq_true not_true_eq_false decide_true decide_false Bool.false_eq_true Bool.not_true Bool.not_false Bool.true_and Bool.and_true Bool.or_false Bool.false_or Bool.and_self

theorem dloop1 {U u Y y1 y0 : Int} {m : Mem} {N : Nat} (hY : Y = y1 * 4294967296 + y0) (h1 : 2147483648 ≤ y1) (h1' : y1 < 4294967296) (h0 : 0 ≤ y0) (h0' : y0 < 4294967296)
    (hu0 : 0 ≤ u) (hu1 : u < 4294967296) (hU0 : 0 ≤ U) (hU : U < Y) (K : Kt) :
    ∀ (n : Nat) (q r : Int) (e : Nat → Reg), q * y1 + r = U → 0 ≤ r → r < 4294967296 → 4294967296 - r ≤ n * 2147483648 → 0 ≤ q → q ≤ 4294967297 → (U * 4294967296 + u) / Y ≤ q →
      e 18 = RU q → e 16 = RU r → e 9 = RU y1 → e 10 = RU y0 → e 14 = RU u →
      (∀ e' : Nat → Reg, e' 18 = RU ((U * 4294967296 + u) / Y) → e' 2 = e 2 → e' 8 = e 8 → e' 9 = e 9 → e' 10 = e 10 → e' 15 = e 15 → e' 14 = e 14 → e' 17 = e 17 → KN TA K ⟨e', m, N⟩) →
      XK TA (.loop l50_1) ⟨e, m, N⟩ (Kt.blk 2 K) := by
  have hYp : 0 < Y := by omega
  intro n
  induction n with
  | zero => intro q r e _ _ h2 h3; omega
  | succ n ih =>
    intro q r e hq hr0 hr1 hn hq0 hqb hqt e18 e16 e9 e10 e14 hx
    have p0 : 0 ≤ q * y0 := Int.mul_nonneg hq0 h0
    have p1 : q * y0 ≤ 4294967297 * 4294967295 := Int.mul_le_mul hqb (by omega) h0 (by decide)
    have wq : q * y0 % 18446744073709551616 = q * y0 := Int.emod_eq_of_lt p0 (by omega)
    have wr : (4294967296 * r % 18446744073709551616 + u) % 18446744073709551616 = 4294967296 * r + u := by omega
    have more : (4294967296 ≤ q ∨ 4294967296 * r + u < q * y0) → (U * 4294967296 + u) / Y ≤ q - 1 := digit_less hY hYp hu0 hu1 hU hq
    have w1 : (r + y1) % 18446744073709551616 = r + y1 := by omega
    have e1 : (q - 1) * y1 + (r + y1) = U := by rw [Int.sub_mul, Int.one_mul]; omega
    by_cases c1 : 4294967296 ≤ q ∨ 4294967296 * r + u < q * y0
    · have hless := more c1
      have hQ0 : 0 ≤ (U * 4294967296 + u) / Y := Int.ediv_nonneg (by omega) (by omega)
      have w2 : (q - 1) % 18446744073709551616 = q - 1 := by omega
      by_cases c : 4294967296 ≤ r + y1
      · have p2 : (q - 1) * y0 ≤ 4294967296 * 4294967295 := Int.mul_le_mul (by omega) (by omega) h0 (by decide)
        have hge := digit_enough hY hYp e1 (u := u) (by omega)
        have hqe : q - 1 = (U * 4294967296 + u) / Y := by omega
        by_cases c3 : 4294967296 ≤ q
        · rw [XK_loop]
          try simp only [l50_1, r50_0, r50_1, r50_2, r50_3, r50_4, r50_5, r50_6, r50_7, r50_8, r50_9, r50_10, r50_11, r50_12, r50_13, r50_14, r50_15, r50_16, r50_17, r50_18, r50_19, r50_20, r50_21, r50_22, r50_23, r50_24, r50_25, r50_26, r50_27, r50_28, c50, F50, e18, e16, e9, e10, e14, c3, c, w1, w2, go_sem, Int.reduceTMod, Int.reduceTDiv, Int.reduceDiv, Int.reduceMod, Int.reduceAdd, Int.reduceSub, Int.reduceMul, Int.reduceNeg, Int.reducePow, Int.reduceEq, ↓reduceIte, Nat.reduceEqDiff, Nat.reduceAdd, Nat.reduceMul, Nat.reduceLeDiff, Nat.reduceSub, Nat.reduceLT, Int.reduceToNat, Int.reduceLT, Int.reduceLE, reduceCtorEq]
          repeat' ((first | refine FK_split (fun h_ => ?_) (fun h_ => ?_) | refine GK_split (fun h_ => ?_) (fun h_ => ?_) | refine ite_both (fun h_ => ?_) (fun h_ => ?_)) <;> (try simp only [decide_eq_true_eq, decide_eq_false_iff_not, Bool.not_true, Bool.not_false, Bool.not_eq_true', Bool.not_eq_false', Bool.not_eq_eq_eq_not, Decidable.not_not] at h_) <;> (try simp only [l50_1, r50_0, r50_1, r50_2, r50_3, r50_4, r50_5, r50_6, r50_7, r50_8, r50_9, r50_10, r50_11, r50_12, r50_13, r50_14, r50_15, r50_16, r50_17, r50_18, r50_19, r50_20, r50_21, r50_22, r50_23, r50_24, r50_25, r50_26, r50_27, r50_28, c50, F50, e18, e16, e9, e10, e14, c3, c, w1, w2, h_, go_sem, Int.reduceTMod, Int.reduceTDiv, Int.reduceDiv, Int.reduceMod, Int.reduceAdd, Int.reduceSub, Int.reduceMul, Int.reduceNeg, Int.reducePow, Int.reduceEq, ↓reduceIte, Nat.reduceEqDiff, Nat.reduceAdd, Nat.reduceMul, Nat.reduceLeDiff, Nat.reduceSub, Nat.reduceLT, Int.reduceToNat, Int.reduceLT, Int.reduceLE, reduceCtorEq]))
          refine hx _ ?_ ?_ ?_ ?_ ?_ ?_ ?_ ?_
          · simp only [hqe, go_sem, Int.reduceTMod, Int.reduceTDiv, Int.reduceDiv, Int.reduceMod, Int.reduceAdd, Int.reduceSub, Int.reduceMul, Int.reduceNeg, Int.reducePow, Int.reduceEq, ↓reduceIte, Nat.reduceEqDiff, Nat.reduceAdd, Nat.reduceMul, Nat.reduceLeDiff, Nat.reduceSub, Nat.reduceLT, Int.reduceToNat, Int.reduceLT, Int.reduceLE, reduceCtorEq]
          all_goals simp only [e9, e10, e14, go_sem, Int.reduceTMod, Int.reduceTDiv, Int.reduceDiv, Int.reduceMod, Int.reduceAdd, Int.reduceSub, Int.reduceMul, Int.reduceNeg, Int.reducePow, Int.reduceEq, ↓reduceIte, Nat.reduceEqDiff, Nat.reduceAdd, Nat.reduceMul, Nat.reduceLeDiff, Nat.reduceSub, Nat.reduceLT, Int.reduceToNat, Int.reduceLT, Int.reduceLE, reduceCtorEq]
        · have c4 := c1.resolve_left c3
          rw [XK_loop]
          try simp only [l50_1, r50_0, r50_1, r50_2, r50_3, r50_4, r50_5, r50_6, r50_7, r50_8, r50_9, r50_10, r50_11, r50_12, r50_13, r50_14, r50_15, r50_16, r50_17, r50_18, r50_19, r50_20, r50_21, r50_22, r50_23, r50_24, r50_25, r50_26, r50_27, r50_28, c50, F50, e18, e16, e9, e10, e14, c3, c4, c, w1, w2, wq, wr, go_sem, Int.reduceTMod, Int.reduceTDiv, Int.reduceDiv, Int.reduceMod, Int.reduceAdd, Int.reduceSub, Int.reduceMul, Int.reduceNeg, Int.reducePow, Int.reduceEq, ↓reduceIte, Nat.reduceEqDiff, Nat.reduceAdd, Nat.reduceMul, Nat.reduceLeDiff, Nat.reduceSub, Nat.reduceLT, Int.reduceToNat, Int.reduceLT, Int.reduceLE, reduceCtorEq]
          repeat' ((first | refine FK_split (fun h_ => ?_) (fun h_ => ?_) | refine GK_split (fun h_ => ?_) (fun h_ => ?_) | refine ite_both (fun h_ => ?_) (fun h_ => ?_)) <;> (try simp only [decide_eq_true_eq, decide_eq_false_iff_not, Bool.not_true, Bool.not_false, Bool.not_eq_true', Bool.not_eq_false', Bool.not_eq_eq_eq_not, Decidable.not_not] at h_) <;> (try simp only [l50_1, r50_0, r50_1, r50_2, r50_3, r50_4, r50_5, r50_6, r50_7, r50_8, r50_9, r50_10, r50_11, r50_12, r50_13, r50_14, r50_15, r50_16, r50_17, r50_18, r50_19, r50_20, r50_21, r50_22, r50_23, r50_24, r50_25, r50_26, r50_27, r50_28, c50, F50, e18, e16, e9, e10, e14, c3, c4, c, w1, w2, wq, wr, h_, go_sem, Int.reduceTMod, Int.reduceTDiv, Int.reduceDiv, Int.reduceMod, Int.reduceAdd, Int.reduceSub, Int.reduceMul, Int.reduceNeg, Int.reducePow, Int.reduceEq, ↓reduceIte, Nat.reduceEqDiff, Nat.reduceAdd, Nat.reduceMul, Nat.reduceLeDiff, Nat.reduceSub, Nat.reduceLT, Int.reduceToNat, Int.reduceLT, Int.reduceLE, reduceCtorEq]))
          refine hx _ ?_ ?_ ?_ ?_ ?_ ?_ ?_ ?_
          · simp only [hqe, go_sem, Int.reduceTMod, Int.reduceTDiv, Int.reduceDiv, Int.reduceMod, Int.reduceAdd, Int.reduceSub, Int.reduceMul, Int.reduceNeg, Int.reducePow, Int.reduceEq, ↓reduceIte, Nat.reduceEqDiff, Nat.reduceAdd, Nat.reduceMul, Nat.reduceLeDiff, Nat.reduceSub, Nat.reduceLT, Int.reduceToNat, Int.reduceLT, Int.reduceLE, reduceCtorEq]
          all_goals simp only [e9, e10, e14, go_sem, Int.reduceTMod, Int.reduceTDiv, Int.reduceDiv, Int.reduceMod, Int.reduceAdd, Int.reduceSub, Int.reduceMul, Int.reduceNeg, Int.reducePow, Int.reduceEq, ↓reduceIte, Nat.reduceEqDiff, Nat.reduceAdd, Nat.reduceMul, Nat.reduceLeDiff, Nat.reduceSub, Nat.reduceLT, Int.reduceToNat, Int.reduceLT, Int.reduceLE, reduceCtorEq]
      · have go : ∀ e' : Nat → Reg, e' 18 = RU (q - 1) → e' 16 = RU (r + y1) → e' 2 = e 2 → e' 8 = e 8 → e' 9 = e 9 → e' 10 = e 10 → e' 15 = e 15 → e' 14 = e 14 → e' 17 = e 17 → XK TA (.loop l50_1) ⟨e', m, N⟩ (Kt.blk 2 K) := by
          intro e' k18 k16 k2 k8 k9 k10 k15 k14 k17
          refine ih (q - 1) (r + y1) e' e1 (by omega) (by omega) (by omega) (by omega) (by omega) hless k18 k16 (by rw [k9]; exact e9) (by rw [k10]; exact e10) (by rw [k14]; exact e14) ?_
          intro e2 j18 j2 j8 j9 j10 j15 j14 j17
          exact hx e2 j18 (by rw [j2, k2]) (by rw [j8, k8]) (by rw [j9, k9]) (by rw [j10, k10]) (by rw [j15, k15]) (by rw [j14, k14]) (by rw [j17, k17])
        by_cases c3 : 4294967296 ≤ q
        · rw [XK_loop]
          try simp only [l50_1, r50_0, r50_1, r50_2, r50_3, r50_4, r50_5, r50_6, r50_7, r50_8, r50_9, r50_10, r50_11, r50_12, r50_13, r50_14, r50_15, r50_16, r50_17, r50_18, r50_19, r50_20, r50_21, r50_22, r50_23, r50_24, r50_25, r50_26, r50_27, r50_28, c50, F50, e18, e16, e9, e10, e14, c3, c, w1, w2, go_sem, Int.reduceTMod, Int.reduceTDiv, Int.reduceDiv, Int.reduceMod, Int.reduceAdd, Int.reduceSub, Int.reduceMul, Int.reduceNeg, Int.reducePow, Int.reduceEq, ↓reduceIte, Nat.reduceEqDiff, Nat.reduceAdd, Nat.reduceMul, Nat.reduceLeDiff, Nat.reduceSub, Nat.reduceLT, Int.reduceToNat, Int.reduceLT, Int.reduceLE, reduceCtorEq]
          repeat' ((first | refine FK_split (fun h_ => ?_) (fun h_ => ?_) | refine GK_split (fun h_ => ?_) (fun h_ => ?_) | refine ite_both (fun h_ => ?_) (fun h_ => ?_)) <;> (try simp only [decide_eq_true_eq, decide_eq_false_iff_not, Bool.not_true, Bool.not_false, Bool.not_eq_true', Bool.not_eq_false', Bool.not_eq_eq_eq_not, Decidable.not_not] at h_) <;> (try simp only [l50_1, r50_0, r50_1, r50_2, r50_3, r50_4, r50_5, r50_6, r50_7, r50_8, r50_9, r50_10, r50_11, r50_12, r50_13, r50_14, r50_15, r50_16, r50_17, r50_18, r50_19, r50_20, r50_21, r50_22, r50_23, r50_24, r50_25, r50_26, r50_27, r50_28, c50, F50, e18, e16, e9, e10, e14, c3, c, w1, w2, h_, go_sem, Int.reduceTMod, Int.reduceTDiv, Int.reduceDiv, Int.reduceMod, Int.reduceAdd, Int.reduceSub, Int.reduceMul, Int.reduceNeg, Int.reducePow, Int.reduceEq, ↓reduceIte, Nat.reduceEqDiff, Nat.reduceAdd, Nat.reduceMul, Nat.reduceLeDiff, Nat.reduceSub, Nat.reduceLT, Int.reduceToNat, Int.reduceLT, Int.reduceLE, reduceCtorEq]))
          refine go _ ?_ ?_ ?_ ?_ ?_ ?_ ?_ ?_ ?_
          all_goals simp only [e9, e10, e14, go_sem, Int.reduceTMod, Int.reduceTDiv, Int.reduceDiv, Int.reduceMod, Int.reduceAdd, Int.reduceSub, Int.reduceMul, Int.reduceNeg, Int.reducePow, Int.reduceEq, ↓reduceIte, Nat.reduceEqDiff, Nat.reduceAdd, Nat.reduceMul, Nat.reduceLeDiff, Nat.reduceSub, Nat.reduceLT, Int.reduceToNat, Int.reduceLT, Int.reduceLE, reduceCtorEq]
        · have c4 := c1.resolve_left c3
          rw [XK_loop]
          try simp only [l50_1, r50_0, r50_1, r50_2, r50_3, r50_4, r50_5, r50_6, r50_7, r50_8, r50_9, r50_10, r50_11, r50_12, r50_13, r50_14, r50_15, r50_16, r50_17, r50_18, r50_19, r50_20, r50_21, r50_22, r50_23, r50_24, r50_25, r50_26, r50_27, r50_28, c50, F50, e18, e16, e9, e10, e14, c3, c4, c, w1, w2, wq, wr, go_sem, Int.reduceTMod, Int.reduceTDiv, Int.reduceDiv, Int.reduceMod, Int.reduceAdd, Int.reduceSub, Int.reduceMul, Int.reduceNeg, Int.reducePow, Int.reduceEq, ↓reduceIte, Nat.reduceEqDiff, Nat.reduceAdd, Nat.reduceMul, Nat.reduceLeDiff, Nat.reduceSub, Nat.reduceLT, Int.reduceToNat, Int.reduceLT, Int.reduceLE, reduceCtorEq]
          repeat' ((first | refine FK_split (fun h_ => ?_) (fun h_ => ?_) | refine GK_split (fun h_ => ?_) (fun h_ => ?_) | refine ite_both (fun h_ => ?_) (fun h_ => ?_)) <;> (try simp only [decide_eq_true_eq, decide_eq_false_iff_not, Bool.not_true, Bool.not_false, Bool.not_eq_true', Bool.not_eq_false', Bool.not_eq_eq_eq_not, Decidable.not_not] at h_) <;> (try simp only [l50_1, r50_0, r50_1, r50_2, r50_3, r50_4, r50_5, r50_6, r50_7, r50_8, r50_9, r50_10, r50_11, r50_12, r50_13, r50_14, r50_15, r50_16, r50_17, r50_18, r50_19, r50_20, r50_21, r50_22, r50_23, r50_24, r50_25, r50_26, r50_27, r50_28, c50, F50, e18, e16, e9, e10, e14, c3, c4, c, w1, w2, wq, wr, h_, go_sem, Int.reduceTMod, Int.reduceTDiv, Int.reduceDiv, Int.reduceMod, Int.reduceAdd, Int.reduceSub, Int.reduceMul, Int.reduceNeg, Int.reducePow, Int.reduceEq, ↓reduceIte, Nat.reduceEqDiff, Nat.reduceAdd, Nat.reduceMul, Nat.reduceLeDiff, Nat.reduceSub, Nat.reduceLT, Int.reduceToNat, Int.reduceLT, Int.reduceLE, reduceCtorEq]))
          refine go _ ?_ ?_ ?_ ?_ ?_ ?_ ?_ ?_ ?_
          all_goals simp only [e9, e10, e14, go_sem, Int.reduceTMod, Int.reduceTDiv, Int.reduceDiv, Int.reduceMod, Int.reduceAdd, Int.reduceSub, Int.reduceMul, Int.reduceNeg, Int.reducePow, Int.reduceEq, ↓reduceIte, Nat.reduceEqDiff, Nat.reduceAdd, Nat.reduceMul, Nat.reduceLeDiff, Nat.reduceSub, Nat.reduceLT, Int.reduceToNat, Int.reduceLT, Int.reduceLE, reduceCtorEq]
    · have c3 : ¬ 4294967296 ≤ q := fun h => c1 (Or.inl h)
      have c4 : ¬ 4294967296 * r + u < q * y0 := fun h => c1 (Or.inr h)
      have hge := digit_enough hY hYp hq (u := u) (by omega)
      have hqe : q = (U * 4294967296 + u) / Y := by omega
      rw [XK_loop]
      try simp only [l50_1, r50_0, r50_1, r50_2, r50_3, r50_4, r50_5, r50_6, r50_7, r50_8, r50_9, r50_10, r50_11, r50_12, r50_13, r50_14, r50_15, r50_16, r50_17, r50_18, r50_19, r50_20, r50_21, r50_22, r50_23, r50_24, r50_25, r50_26, r50_27, r50_28, c50, F50, e18, e16, e9, e10, e14, c3, c4, wq, wr, go_sem, Int.reduceTMod, Int.reduceTDiv, Int.reduceDiv, Int.reduceMod, Int.reduceAdd, Int.reduceSub, Int.reduceMul, Int.reduceNeg, Int.reducePow, Int.reduceEq, ↓reduceIte, Nat.reduceEqDiff, Nat.reduceAdd, Nat.reduceMul, Nat.reduceLeDiff, Nat.reduceSub, Nat.reduceLT, Int.reduceToNat, Int.reduceLT, Int.reduceLE, reduceCtorEq]
      repeat' ((first | refine FK_split (fun h_ => ?_) (fun h_ => ?_) | refine GK_split (fun h_ => ?_) (fun h_ => ?_) | refine ite_both (fun h_ => ?_) (fun h_ => ?_)) <;> (try simp only [decide_eq_true_eq, decide_eq_false_iff_not, Bool.not_true, Bool.not_false, Bool.not_eq_true', Bool.not_eq_false', Bool.not_eq_eq_eq_not, Decidable.not_not] at h_) <;> (try simp only [l50_1, r50_0, r50_1, r50_2, r50_3, r50_4, r50_5, r50_6, r50_7, r50_8, r50_9, r50_10, r50_11, r50_12, r50_13, r50_14, r50_15, r50_16, r50_17, r50_18, r50_19, r50_20, r50_21, r50_22, r50_23, r50_24, r50_25, r50_26, r50_27, r50_28, c50, F50, e18, e16, e9, e10, e14, c3, c4, wq, wr, h_, go_sem, Int.reduceTMod, Int.reduceTDiv, Int.reduceDiv, Int.reduceMod, Int.reduceAdd, Int.reduceSub, Int.reduceMul, Int.reduceNeg, Int.reducePow, Int.reduceEq, ↓reduceIte, Nat.reduceEqDiff, Nat.reduceAdd, Nat.reduceMul, Nat.reduceLeDiff, Nat.reduceSub, Nat.reduceLT, Int.reduceToNat, Int.reduceLT, Int.reduceLE, reduceCtorEq]))
      refine hx _ ?_ ?_ ?_ ?_ ?_ ?_ ?_ ?_
      · simp only [e18, hqe, go_sem, Int.reduceTMod, Int.reduceTDiv, Int.reduceDiv, Int.reduceMod, Int.reduceAdd, Int.reduceSub, Int.reduceMul, Int.reduceNeg, Int.reducePow, Int.reduceEq, ↓reduceIte, Nat.reduceEqDiff, Nat.reduceAdd, Nat.reduceMul, Nat.reduceLeDiff, Nat.reduceSub, Nat.reduceLT, Int.reduceToNat, Int.reduceLT, Int.reduceLE, reduceCtorEq]
      all_goals simp only [e9, e10, e14, go_sem, Int.reduceTMod, Int.reduceTDiv, Int.reduceDiv, Int.reduceMod, Int.reduceAdd, Int.reduceSub, Int.reduceMul, Int.reduceNeg, Int.reducePow, Int.reduceEq, ↓reduceIte, Nat.reduceEqDiff, Nat.reduceAdd, Nat.reduceMul, Nat.reduceLeDiff, Nat.reduceSub, Nat.reduceLT, Int.reduceToNat, Int.reduceLT, Int.reduceLE, reduceCtorEq]

theorem v_Div64W {h l y : Int} (hh : 0 < h) (hy : h < y) (hyb : y < 18446744073709551616) (hl0 : 0 ≤ l) (hl1 : l < 18446744073709551616) (m : Mem) (n : Nat) :
    callF TA 50 [RU h, RU l, RU y] m n = some (.tup [RU ((h * 18446744073709551616 + l) / y), RU ((h * 18446744073709551616 + l) % y)]) := by
  refine callF_of (Fn_ofK (fn := F50) rfl (by simp [F50]) ?_)
  obtain ⟨s, s1, s2, s3, s4⟩ := v_LZ (x := y) (by omega) hyb
  have pS : (0 : Int) < 2 ^ s := Int.pow_pos (by decide)
  have pT : (0 : Int) < 2 ^ (64 - s) := Int.pow_pos (by decide)
  have pw : (2 : Int) ^ s * 2 ^ (64 - s) = 18446744073709551616 := by rw [← Int.pow_add, show s + (64 - s) = 64 by omega]; decide
  have z0 : (y = 0) = False := eq_false (by omega)
  have z1 : (y ≤ h) = False := eq_false (by omega)
  have z2 : (h = 0) = False := eq_false (by omega)
  have ws : (s : Int) % 18446744073709551616 = s := by omega
  have ws2 : (64 - (s : Int)) % 18446744073709551616 = ((64 - s : Nat) : Int) := by omega
  have g0 : (0 ≤ (s : Int)) = True := eq_true (by omega)
  have g1 : (0 ≤ ((64 - s : Nat) : Int)) = True := eq_true (by omega)
  have mn1 : min s 64 = s := by omega
  have mn2 : min (64 - s) 64 = 64 - s := by omega
  -- the parts of what is divided, moved to the top
  have eY : y * 2 ^ s % 18446744073709551616 = y * 2 ^ s := Int.emod_eq_of_lt (by omega) s3
  have eU : Go.bits .or .u64 (h * 2 ^ s % 18446744073709551616) (l / 2 ^ (64 - s)) = h * 2 ^ s + l / 2 ^ (64 - s) := by
    have b1 : h * 2 ^ s < 18446744073709551616 := Int.lt_trans (Int.mul_lt_mul_of_pos_right hy pS) s3
    have b0 : 0 ≤ h * 2 ^ s := Int.mul_nonneg (by omega) (by omega)
    rw [Int.emod_eq_of_lt b0 b1]
    have pw2 : (2 : Int) ^ 64 = 18446744073709551616 := by decide
    have l1 : l / 2 ^ (64 - s) < 2 ^ s := Int.ediv_lt_of_lt_mul pT (by rw [pw]; exact hl1)
    have l0 : 0 ≤ l / 2 ^ (64 - s) := Int.ediv_nonneg hl0 (by omega)
    have l2 : (2 : Int) ^ s ≤ 18446744073709551616 := by
      have := Int.mul_le_mul_of_nonneg_left (show (1 : Int) ≤ 2 ^ (64 - s) by omega) (show (0 : Int) ≤ 2 ^ s by omega)
      rw [pw] at this
      omega
    exact bits_join .u64 64 (by decide) wraps_u64 s _ _ b0 (Int.mul_emod_left _ _) (by omega) l0 l1 (by omega)
  obtain ⟨Y, dY⟩ : ∃ Y : Int, Y = y * 2 ^ s := ⟨_, rfl⟩
  obtain ⟨U, dU⟩ : ∃ U : Int, U = h * 2 ^ s + l / 2 ^ (64 - s) := ⟨_, rfl⟩
  obtain ⟨L, dL⟩ : ∃ L : Int, L = l * 2 ^ s % 18446744073709551616 := ⟨_, rfl⟩
  rw [← dY] at eY s2 s3
  rw [← dU] at eU
  have hL0 : 0 ≤ L := by omega
  have hL1 : L < 18446744073709551616 := by omega
  have aY := and_low32 Y (by omega) (by omega)
  have aL := and_low32 L hL0 hL1
  -- what the parts come to
  have eN : U * 18446744073709551616 + L = (h * 18446744073709551616 + l) * 2 ^ s := by
    have d1 := Int.mul_ediv_add_emod l (2 ^ (64 - s))
    have d2 : l * 2 ^ s = 18446744073709551616 * (l / 2 ^ (64 - s)) + l % 2 ^ (64 - s) * 2 ^ s := by
      have : l * 2 ^ s = (2 ^ (64 - s) * (l / 2 ^ (64 - s)) + l % 2 ^ (64 - s)) * 2 ^ s := by rw [d1]
      rw [this, ← pw]; grind
    have d3 : l % 2 ^ (64 - s) * 2 ^ s < 18446744073709551616 := by
      rw [← pw, Int.mul_comm (2 ^ s)]
      exact Int.mul_lt_mul_of_pos_right (Int.emod_lt_of_pos _ pT) pS
    have d4 : 0 ≤ l % 2 ^ (64 - s) * 2 ^ s := Int.mul_nonneg (Int.emod_nonneg _ (by omega)) (by omega)
    have e3 : (h * 18446744073709551616 + l) * 2 ^ s = 18446744073709551616 * (h * 2 ^ s) + l * 2 ^ s := by grind
    rw [dU, dL, e3]
    omega
  have hU0 : 0 ≤ U := by rw [dU]; exact Int.add_nonneg (Int.mul_nonneg (by omega) (by omega)) (Int.ediv_nonneg hl0 (by omega))
  have hU1 : U < Y := by
    have : (h * 18446744073709551616 + l) * 2 ^ s < (y * 18446744073709551616) * 2 ^ s := Int.mul_lt_mul_of_pos_right (by omega) pS
    rw [← eN, Int.mul_right_comm, ← dY] at this
    omega
  obtain ⟨y1, dy1⟩ : ∃ y1 : Int, y1 = Y / 4294967296 := ⟨_, rfl⟩
  obtain ⟨y0, dy0⟩ : ∃ y0 : Int, y0 = Y % 4294967296 := ⟨_, rfl⟩
  obtain ⟨u1, du1⟩ : ∃ u1 : Int, u1 = L / 4294967296 := ⟨_, rfl⟩
  obtain ⟨u0, du0⟩ : ∃ u0 : Int, u0 = L % 4294967296 := ⟨_, rfl⟩
  rw [← dy0] at aY
  rw [← du0] at aL
  have hYe : Y = y1 * 4294967296 + y0 := by omega
  have y1z : (y1 = 0) = False := eq_false (by omega)
  have digit : ∀ V u : Int, 0 ≤ V → V < Y → 0 ≤ u → u < 4294967296 → V.tdiv y1 % 18446744073709551616 = V / y1 ∧ (V - V / y1 * y1 % 18446744073709551616) % 18446744073709551616 = V % y1 ∧ V / y1 * y1 + V % y1 = V ∧ (0 ≤ V % y1 ∧ V % y1 < 4294967296 ∧ 4294967296 - V % y1 ≤ (3 : Nat) * 2147483648) ∧ 0 ≤ V / y1 ∧ V / y1 ≤ 4294967297 ∧ (V * 4294967296 + u) / Y ≤ V / y1 := by
    intro V u v0 v1 hu0 hu1
    have a1 := Int.mul_ediv_add_emod V y1
    have a2 := Int.emod_nonneg V (show y1 ≠ 0 by omega)
    have a3 := Int.emod_lt_of_pos V (show 0 < y1 by omega)
    obtain ⟨f1, f2, f3⟩ := first_digit hYe (by omega) (by omega) (by omega) v0 v1 u hu0 hu1
    rw [Int.mul_comm y1] at a1
    refine ⟨?_, ?_, a1, ⟨a2, by omega, by omega⟩, f1, f2, f3⟩
    · rw [Int.tdiv_eq_ediv_of_nonneg v0]; omega
    · generalize V / y1 * y1 = P at *
      omega
  obtain ⟨q1, q2, q3, ⟨q4, q5, q6⟩, q7, q8, q9⟩ := digit U u1 hU0 hU1 (by omega) (by omega)
  -- what is left behind the first digit
  obtain ⟨Q, dQ⟩ : ∃ Q : Int, Q = (U * 4294967296 + u1) / Y := ⟨_, rfl⟩
  obtain ⟨R, dR⟩ : ∃ R : Int, R = (U * 4294967296 + u1) % Y := ⟨_, rfl⟩
  have hD := Int.mul_ediv_add_emod (U * 4294967296 + u1) Y
  have hR0 := Int.emod_nonneg (U * 4294967296 + u1) (show Y ≠ 0 by omega)
  have hR1 := Int.emod_lt_of_pos (U * 4294967296 + u1) (show 0 < Y by omega)
  have hQ0 : 0 ≤ (U * 4294967296 + u1) / Y := Int.ediv_nonneg (by omega) (by omega)
  have hQ1 : (U * 4294967296 + u1) / Y < 4294967296 := Int.ediv_lt_of_lt_mul (by omega) (by omega)
  rw [← dQ, ← dR] at hD
  rw [← dQ] at hQ0 hQ1
  rw [← dR] at hR0 hR1
  have w21 : ((U * 4294967296 % 18446744073709551616 + u1) % 18446744073709551616 - Q * Y % 18446744073709551616) % 18446744073709551616 = R := by
    rw [Int.mul_comm Y] at hD
    generalize Q * Y = P at *
    omega
  obtain ⟨t1, t2, t3, ⟨t4, t5, t6⟩, t7, t8, t9⟩ := digit R u0 hR0 hR1 (by omega) (by omega)
  obtain ⟨Q2, dQ2⟩ : ∃ Q2 : Int, Q2 = (R * 4294967296 + u0) / Y := ⟨_, rfl⟩
  have hD2 := Int.mul_ediv_add_emod (R * 4294967296 + u0) Y
  have hS0 := Int.emod_nonneg (R * 4294967296 + u0) (show Y ≠ 0 by omega)
  have hS1 := Int.emod_lt_of_pos (R * 4294967296 + u0) (show 0 < Y by omega)
  have hP0 : 0 ≤ (R * 4294967296 + u0) / Y := Int.ediv_nonneg (by omega) (by omega)
  have hP1 : (R * 4294967296 + u0) / Y < 4294967296 := Int.ediv_lt_of_lt_mul (by omega) (by omega)
  obtain ⟨S, dS⟩ : ∃ S : Int, S = (R * 4294967296 + u0) % Y := ⟨_, rfl⟩
  rw [← dQ2, ← dS] at hD2
  rw [← dQ2] at hP0 hP1
  rw [← dS] at hS0 hS1
  have key : U * 18446744073709551616 + L = R * 4294967296 + u0 + Y * (Q * 4294967296) := by
    have : Y * (Q * 4294967296) = (Y * Q) * 4294967296 := by rw [Int.mul_assoc]
    omega
  have fin1 : (Q * 4294967296 % 18446744073709551616 + Q2) % 18446744073709551616 = (h * 18446744073709551616 + l) / y := by
    have : (U * 18446744073709551616 + L) / Y = (h * 18446744073709551616 + l) / y := by rw [eN, dY, Int.mul_ediv_mul_of_pos_left _ _ pS]
    rw [← this, key, Int.add_mul_ediv_left _ _ (by omega), ← dQ2]
    omega
  have fin2 : ((R * 4294967296 % 18446744073709551616 + u0) % 18446744073709551616 - Q2 * Y % 18446744073709551616) % 18446744073709551616 / 2 ^ s = (h * 18446744073709551616 + l) % y := by
    have e1 : ((R * 4294967296 % 18446744073709551616 + u0) % 18446744073709551616 - Q2 * Y % 18446744073709551616) % 18446744073709551616 = S := by
      rw [Int.mul_comm Y] at hD2
      generalize Q2 * Y = P at *
      omega
    have e2 : S = (U * 18446744073709551616 + L) % Y := by rw [key, Int.add_mul_emod_self_left, dS]
    rw [e1, e2, eN, dY, Int.mul_comm _ (2 ^ s), Int.mul_comm y (2 ^ s), Int.mul_emod_mul_of_pos _ _ pS, Int.mul_ediv_cancel_left _ (by omega)]
  try simp only [r50_0, r50_1, r50_2, r50_3, r50_4, r50_5, r50_6, r50_7, r50_8, r50_9, r50_10, r50_11, r50_12, r50_13, r50_14, r50_15, r50_16, r50_17, r50_18, r50_19, r50_20, r50_21, r50_22, r50_23, r50_24, r50_25, r50_26, r50_27, r50_28, c50, F50, z0, z1, z2, s4, ws, ws2, g0, g1, Int.toNat_natCast, mn1, mn2, ← dY, eY, eU, ← dL, aY, aL, ← dy1, ← du1, y1z, q1, q2, go_sem, Int.reduceTMod, Int.reduceTDiv, Int.reduceDiv, Int.reduceMod, Int.reduceAdd, Int.reduceSub, Int.reduceMul, Int.reduceNeg, Int.reducePow, Int.reduceEq, ↓reduceIte, Nat.reduceEqDiff, Nat.reduceAdd, Nat.reduceMul, Nat.reduceLeDiff, Nat.reduceSub, Nat.reduceLT, Int.reduceToNat, Int.reduceLT, Int.reduceLE, reduceCtorEq]
  repeat' ((first | refine FK_split (fun h_ => ?_) (fun h_ => ?_) | refine GK_split (fun h_ => ?_) (fun h_ => ?_) | refine ite_both (fun h_ => ?_) (fun h_ => ?_)) <;> (try simp only [decide_eq_true_eq, decide_eq_false_iff_not, Bool.not_true, Bool.not_false, Bool.not_eq_true', Bool.not_eq_false', Bool.not_eq_eq_eq_not, Decidable.not_not] at h_) <;> (try simp only [r50_0, r50_1, r50_2, r50_3, r50_4, r50_5, r50_6, r50_7, r50_8, r50_9, r50_10, r50_11, r50_12, r50_13, r50_14, r50_15, r50_16, r50_17, r50_18, r50_19, r50_20, r50_21, r50_22, r50_23, r50_24, r50_25, r50_26, r50_27, r50_28, c50, F50, z0, z1, z2, s4, ws, ws2, g0, g1, Int.toNat_natCast, mn1, mn2, ← dY, eY, eU, ← dL, aY, aL, ← dy1, ← du1, y1z, q1, q2, h_, go_sem, Int.reduceTMod, Int.reduceTDiv, Int.reduceDiv, Int.reduceMod, Int.reduceAdd, Int.reduceSub, Int.reduceMul, Int.reduceNeg, Int.reducePow, Int.reduceEq, ↓reduceIte, Nat.reduceEqDiff, Nat.reduceAdd, Nat.reduceMul, Nat.reduceLeDiff, Nat.reduceSub, Nat.reduceLT, Int.reduceToNat, Int.reduceLT, Int.reduceLE, reduceCtorEq]))
  refine dloop0 hYe (by omega) (by omega) (by omega) (by omega) (show 0 ≤ u1 by omega) (by omega) hU0 hU1 _ 3 (U / y1) (U % y1) _ q3 q4 q5 q6 q7 q8 q9 ?_ ?_ ?_ ?_ ?_ ?_
  · simp only [go_sem, Int.reduceTMod, Int.reduceTDiv, Int.reduceDiv, Int.reduceMod, Int.reduceAdd, Int.reduceSub, Int.reduceMul, Int.reduceNeg, Int.reducePow, Int.reduceEq, ↓reduceIte, Nat.reduceEqDiff, Nat.reduceAdd, Nat.reduceMul, Nat.reduceLeDiff, Nat.reduceSub, Nat.reduceLT, Int.reduceToNat, Int.reduceLT, Int.reduceLE, reduceCtorEq]
  · simp only [go_sem, Int.reduceTMod, Int.reduceTDiv, Int.reduceDiv, Int.reduceMod, Int.reduceAdd, Int.reduceSub, Int.reduceMul, Int.reduceNeg, Int.reducePow, Int.reduceEq, ↓reduceIte, Nat.reduceEqDiff, Nat.reduceAdd, Nat.reduceMul, Nat.reduceLeDiff, Nat.reduceSub, Nat.reduceLT, Int.reduceToNat, Int.reduceLT, Int.reduceLE, reduceCtorEq]
  · simp only [go_sem, Int.reduceTMod, Int.reduceTDiv, Int.reduceDiv, Int.reduceMod, Int.reduceAdd, Int.reduceSub, Int.reduceMul, Int.reduceNeg, Int.reducePow, Int.reduceEq, ↓reduceIte, Nat.reduceEqDiff, Nat.reduceAdd, Nat.reduceMul, Nat.reduceLeDiff, Nat.reduceSub, Nat.reduceLT, Int.reduceToNat, Int.reduceLT, Int.reduceLE, reduceCtorEq]
  · simp only [go_sem, Int.reduceTMod, Int.reduceTDiv, Int.reduceDiv, Int.reduceMod, Int.reduceAdd, Int.reduceSub, Int.reduceMul, Int.reduceNeg, Int.reducePow, Int.reduceEq, ↓reduceIte, Nat.reduceEqDiff, Nat.reduceAdd, Nat.reduceMul, Nat.reduceLeDiff, Nat.reduceSub, Nat.reduceLT, Int.reduceToNat, Int.reduceLT, Int.reduceLE, reduceCtorEq]
  · simp only [go_sem, Int.reduceTMod, Int.reduceTDiv, Int.reduceDiv, Int.reduceMod, Int.reduceAdd, Int.reduceSub, Int.reduceMul, Int.reduceNeg, Int.reducePow, Int.reduceEq, ↓reduceIte, Nat.reduceEqDiff, Nat.reduceAdd, Nat.reduceMul, Nat.reduceLeDiff, Nat.reduceSub, Nat.reduceLT, Int.reduceToNat, Int.reduceLT, Int.reduceLE, reduceCtorEq]
  intro e1 k15 k2 k8 k9 k10 k11 k13 k14
  replace k2 : e1 2 = RU Y := by
    rw [k2]
    simp only [go_sem, Int.reduceTMod, Int.reduceTDiv, Int.reduceDiv, Int.reduceMod, Int.reduceAdd, Int.reduceSub, Int.reduceMul, Int.reduceNeg, Int.reducePow, Int.reduceEq, ↓reduceIte, Nat.reduceEqDiff, Nat.reduceAdd, Nat.reduceMul, Nat.reduceLeDiff, Nat.reduceSub, Nat.reduceLT, Int.reduceToNat, Int.reduceLT, Int.reduceLE, reduceCtorEq]
  replace k8 : e1 8 = RU s := by
    rw [k8]
    simp only [go_sem, Int.reduceTMod, Int.reduceTDiv, Int.reduceDiv, Int.reduceMod, Int.reduceAdd, Int.reduceSub, Int.reduceMul, Int.reduceNeg, Int.reducePow, Int.reduceEq, ↓reduceIte, Nat.reduceEqDiff, Nat.reduceAdd, Nat.reduceMul, Nat.reduceLeDiff, Nat.reduceSub, Nat.reduceLT, Int.reduceToNat, Int.reduceLT, Int.reduceLE, reduceCtorEq]
  replace k9 : e1 9 = RU y1 := by
    rw [k9]
    simp only [go_sem, Int.reduceTMod, Int.reduceTDiv, Int.reduceDiv, Int.reduceMod, Int.reduceAdd, Int.reduceSub, Int.reduceMul, Int.reduceNeg, Int.reducePow, Int.reduceEq, ↓reduceIte, Nat.reduceEqDiff, Nat.reduceAdd, Nat.reduceMul, Nat.reduceLeDiff, Nat.reduceSub, Nat.reduceLT, Int.reduceToNat, Int.reduceLT, Int.reduceLE, reduceCtorEq]
  replace k10 : e1 10 = RU y0 := by
    rw [k10]
    simp only [go_sem, Int.reduceTMod, Int.reduceTDiv, Int.reduceDiv, Int.reduceMod, Int.reduceAdd, Int.reduceSub, Int.reduceMul, Int.reduceNeg, Int.reducePow, Int.reduceEq, ↓reduceIte, Nat.reduceEqDiff, Nat.reduceAdd, Nat.reduceMul, Nat.reduceLeDiff, Nat.reduceSub, Nat.reduceLT, Int.reduceToNat, Int.reduceLT, Int.reduceLE, reduceCtorEq]
  replace k11 : e1 11 = RU U := by
    rw [k11]
    simp only [go_sem, Int.reduceTMod, Int.reduceTDiv, Int.reduceDiv, Int.reduceMod, Int.reduceAdd, Int.reduceSub, Int.reduceMul, Int.reduceNeg, Int.reducePow, Int.reduceEq, ↓reduceIte, Nat.reduceEqDiff, Nat.reduceAdd, Nat.reduceMul, Nat.reduceLeDiff, Nat.reduceSub, Nat.reduceLT, Int.reduceToNat, Int.reduceLT, Int.reduceLE, reduceCtorEq]
  replace k13 : e1 13 = RU u1 := by
    rw [k13]
    simp only [go_sem, Int.reduceTMod, Int.reduceTDiv, Int.reduceDiv, Int.reduceMod, Int.reduceAdd, Int.reduceSub, Int.reduceMul, Int.reduceNeg, Int.reducePow, Int.reduceEq, ↓reduceIte, Nat.reduceEqDiff, Nat.reduceAdd, Nat.reduceMul, Nat.reduceLeDiff, Nat.reduceSub, Nat.reduceLT, Int.reduceToNat, Int.reduceLT, Int.reduceLE, reduceCtorEq]
  replace k14 : e1 14 = RU u0 := by
    rw [k14]
    simp only [go_sem, Int.reduceTMod, Int.reduceTDiv, Int.reduceDiv, Int.reduceMod, Int.reduceAdd, Int.reduceSub, Int.reduceMul, Int.reduceNeg, Int.reducePow, Int.reduceEq, ↓reduceIte, Nat.reduceEqDiff, Nat.reduceAdd, Nat.reduceMul, Nat.reduceLeDiff, Nat.reduceSub, Nat.reduceLT, Int.reduceToNat, Int.reduceLT, Int.reduceLE, reduceCtorEq]
  rw [← dQ] at k15
  try simp only [r50_0, r50_1, r50_2, r50_3, r50_4, r50_5, r50_6, r50_7, r50_8, r50_9, r50_10, r50_11, r50_12, r50_13, r50_14, r50_15, r50_16, r50_17, r50_18, r50_19, r50_20, r50_21, r50_22, r50_23, r50_24, r50_25, r50_26, r50_27, r50_28, c50, F50, k15, k2, k8, k9, k10, k11, k13, k14, w21, y1z, t1, t2, go_sem, Int.reduceTMod, Int.reduceTDiv, Int.reduceDiv, Int.reduceMod, Int.reduceAdd, Int.reduceSub, Int.reduceMul, Int.reduceNeg, Int.reducePow, Int.reduceEq, ↓reduceIte, Nat.reduceEqDiff, Nat.reduceAdd, Nat.reduceMul, Nat.reduceLeDiff, Nat.reduceSub, Nat.reduceLT, Int.reduceToNat, Int.reduceLT, Int.reduceLE, reduceCtorEq]
  repeat' ((first | refine FK_split (fun h_ => ?_) (fun h_ => ?_) | refine GK_split (fun h_ => ?_) (fun h_ => ?_) | refine ite_both (fun h_ => ?_) (fun h_ => ?_)) <;> (try simp only [decide_eq_true_eq, decide_eq_false_iff_not, Bool.not_true, Bool.not_false, Bool.not_eq_true', Bool.not_eq_false', Bool.not_eq_eq_eq_not, Decidable.not_not] at h_) <;> (try simp only [r50_0, r50_1, r50_2, r50_3, r50_4, r50_5, r50_6, r50_7, r50_8, r50_9, r50_10, r50_11, r50_12, r50_13, r50_14, r50_15, r50_16, r50_17, r50_18, r50_19, r50_20, r50_21, r50_22, r50_23, r50_24, r50_25, r50_26, r50_27, r50_28, c50, F50, k15, k2, k8, k9, k10, k11, k13, k14, w21, y1z, t1, t2, h_, go_sem, Int.reduceTMod, Int.reduceTDiv, Int.reduceDiv, Int.reduceMod, Int.reduceAdd, Int.reduceSub, Int.reduceMul, Int.reduceNeg, Int.reducePow, Int.reduceEq, ↓reduceIte, Nat.reduceEqDiff, Nat.reduceAdd, Nat.reduceMul, Nat.reduceLeDiff, Nat.reduceSub, Nat.reduceLT, Int.reduceToNat, Int.reduceLT, Int.reduceLE, reduceCtorEq]))
  refine dloop1 hYe (by omega) (by omega) (by omega) (by omega) (show 0 ≤ u0 by omega) (by omega) hR0 hR1 _ 3 (R / y1) (R % y1) _ t3 t4 t5 t6 t7 t8 t9 ?_ ?_ ?_ ?_ ?_ ?_
  · simp only [go_sem, Int.reduceTMod, Int.reduceTDiv, Int.reduceDiv, Int.reduceMod, Int.reduceAdd, Int.reduceSub, Int.reduceMul, Int.reduceNeg, Int.reducePow, Int.reduceEq, ↓reduceIte, Nat.reduceEqDiff, Nat.reduceAdd, Nat.reduceMul, Nat.reduceLeDiff, Nat.reduceSub, Nat.reduceLT, Int.reduceToNat, Int.reduceLT, Int.reduceLE, reduceCtorEq]
  · simp only [go_sem, Int.reduceTMod, Int.reduceTDiv, Int.reduceDiv, Int.reduceMod, Int.reduceAdd, Int.reduceSub, Int.reduceMul, Int.reduceNeg, Int.reducePow, Int.reduceEq, ↓reduceIte, Nat.reduceEqDiff, Nat.reduceAdd, Nat.reduceMul, Nat.reduceLeDiff, Nat.reduceSub, Nat.reduceLT, Int.reduceToNat, Int.reduceLT, Int.reduceLE, reduceCtorEq]
  · simp only [k9, go_sem, Int.reduceTMod, Int.reduceTDiv, Int.reduceDiv, Int.reduceMod, Int.reduceAdd, Int.reduceSub, Int.reduceMul, Int.reduceNeg, Int.reducePow, Int.reduceEq, ↓reduceIte, Nat.reduceEqDiff, Nat.reduceAdd, Nat.reduceMul, Nat.reduceLeDiff, Nat.reduceSub, Nat.reduceLT, Int.reduceToNat, Int.reduceLT, Int.reduceLE, reduceCtorEq]
  · simp only [k10, go_sem, Int.reduceTMod, Int.reduceTDiv, Int.reduceDiv, Int.reduceMod, Int.reduceAdd, Int.reduceSub, Int.reduceMul, Int.reduceNeg, Int.reducePow, Int.reduceEq, ↓reduceIte, Nat.reduceEqDiff, Nat.reduceAdd, Nat.reduceMul, Nat.reduceLeDiff, Nat.reduceSub, Nat.reduceLT, Int.reduceToNat, Int.reduceLT, Int.reduceLE, reduceCtorEq]
  · simp only [k14, go_sem, Int.reduceTMod, Int.reduceTDiv, Int.reduceDiv, Int.reduceMod, Int.reduceAdd, Int.reduceSub, Int.reduceMul, Int.reduceNeg, Int.reducePow, Int.reduceEq, ↓reduceIte, Nat.reduceEqDiff, Nat.reduceAdd, Nat.reduceMul, Nat.reduceLeDiff, Nat.reduceSub, Nat.reduceLT, Int.reduceToNat, Int.reduceLT, Int.reduceLE, reduceCtorEq]
  intro e2 j18 j2 j8 j9 j10 j15 j14 j17
  replace j2 : e2 2 = RU Y := by
    rw [j2]
    simp only [k2, go_sem, Int.reduceTMod, Int.reduceTDiv, Int.reduceDiv, Int.reduceMod, Int.reduceAdd, Int.reduceSub, Int.reduceMul, Int.reduceNeg, Int.reducePow, Int.reduceEq, ↓reduceIte, Nat.reduceEqDiff, Nat.reduceAdd, Nat.reduceMul, Nat.reduceLeDiff, Nat.reduceSub, Nat.reduceLT, Int.reduceToNat, Int.reduceLT, Int.reduceLE, reduceCtorEq]
  replace j8 : e2 8 = RU s := by
    rw [j8]
    simp only [k8, go_sem, Int.reduceTMod, Int.reduceTDiv, Int.reduceDiv, Int.reduceMod, Int.reduceAdd, Int.reduceSub, Int.reduceMul, Int.reduceNeg, Int.reducePow, Int.reduceEq, ↓reduceIte, Nat.reduceEqDiff, Nat.reduceAdd, Nat.reduceMul, Nat.reduceLeDiff, Nat.reduceSub, Nat.reduceLT, Int.reduceToNat, Int.reduceLT, Int.reduceLE, reduceCtorEq]
  replace j9 : e2 9 = RU y1 := by
    rw [j9]
    simp only [k9, go_sem, Int.reduceTMod, Int.reduceTDiv, Int.reduceDiv, Int.reduceMod, Int.reduceAdd, Int.reduceSub, Int.reduceMul, Int.reduceNeg, Int.reducePow, Int.reduceEq, ↓reduceIte, Nat.reduceEqDiff, Nat.reduceAdd, Nat.reduceMul, Nat.reduceLeDiff, Nat.reduceSub, Nat.reduceLT, Int.reduceToNat, Int.reduceLT, Int.reduceLE, reduceCtorEq]
  replace j10 : e2 10 = RU y0 := by
    rw [j10]
    simp only [k10, go_sem, Int.reduceTMod, Int.reduceTDiv, Int.reduceDiv, Int.reduceMod, Int.reduceAdd, Int.reduceSub, Int.reduceMul, Int.reduceNeg, Int.reducePow, Int.reduceEq, ↓reduceIte, Nat.reduceEqDiff, Nat.reduceAdd, Nat.reduceMul, Nat.reduceLeDiff, Nat.reduceSub, Nat.reduceLT, Int.reduceToNat, Int.reduceLT, Int.reduceLE, reduceCtorEq]
  replace j15 : e2 15 = RU Q := by
    rw [j15]
    simp only [k15, go_sem, Int.reduceTMod, Int.reduceTDiv, Int.reduceDiv, Int.reduceMod, Int.reduceAdd, Int.reduceSub, Int.reduceMul, Int.reduceNeg, Int.reducePow, Int.reduceEq, ↓reduceIte, Nat.reduceEqDiff, Nat.reduceAdd, Nat.reduceMul, Nat.reduceLeDiff, Nat.reduceSub, Nat.reduceLT, Int.reduceToNat, Int.reduceLT, Int.reduceLE, reduceCtorEq]
  replace j14 : e2 14 = RU u0 := by
    rw [j14]
    simp only [k14, go_sem, Int.reduceTMod, Int.reduceTDiv, Int.reduceDiv, Int.reduceMod, Int.reduceAdd, Int.reduceSub, Int.reduceMul, Int.reduceNeg, Int.reducePow, Int.reduceEq, ↓reduceIte, Nat.reduceEqDiff, Nat.reduceAdd, Nat.reduceMul, Nat.reduceLeDiff, Nat.reduceSub, Nat.reduceLT, Int.reduceToNat, Int.reduceLT, Int.reduceLE, reduceCtorEq]
  replace j17 : e2 17 = RU R := by
    rw [j17]
    simp only [go_sem, Int.reduceTMod, Int.reduceTDiv, Int.reduceDiv, Int.reduceMod, Int.reduceAdd, Int.reduceSub, Int.reduceMul, Int.reduceNeg, Int.reducePow, Int.reduceEq, ↓reduceIte, Nat.reduceEqDiff, Nat.reduceAdd, Nat.reduceMul, Nat.reduceLeDiff, Nat.reduceSub, Nat.reduceLT, Int.reduceToNat, Int.reduceLT, Int.reduceLE, reduceCtorEq]
  rw [← dQ2] at j18
  try simp only [r50_0, r50_1, r50_2, r50_3, r50_4, r50_5, r50_6, r50_7, r50_8, r50_9, r50_10, r50_11, r50_12, r50_13, r50_14, r50_15, r50_16, r50_17, r50_18, r50_19, r50_20, r50_21, r50_22, r50_23, r50_24, r50_25, r50_26, r50_27, r50_28, c50, F50, j18, j2, j8, j9, j10, j15, j14, j17, g0, Int.toNat_natCast, mn1, fin1, fin2, go_sem, Int.reduceTMod, Int.reduceTDiv, Int.reduceDiv, Int.reduceMod, Int.reduceAdd, Int.reduceSub, Int.reduceMul, Int.reduceNeg, Int.reducePow, Int.reduceEq, ↓reduceIte, Nat.reduceEqDiff, Nat.reduceAdd, Nat.reduceMul, Nat.reduceLeDiff, Nat.reduceSub, Nat.reduceLT, Int.reduceToNat, Int.reduceLT, Int.reduceLE, reduceCtorEq]
  repeat' ((first | refine FK_split (fun h_ => ?_) (fun h_ => ?_) | refine GK_split (fun h_ => ?_) (fun h_ => ?_) | refine ite_both (fun h_ => ?_) (fun h_ => ?_)) <;> (try simp only [decide_eq_true_eq, decide_eq_false_iff_not, Bool.not_true, Bool.not_false, Bool.not_eq_true', Bool.not_eq_false', Bool.not_eq_eq_eq_not, Decidable.not_not] at h_) <;> (try simp only [r50_0, r50_1, r50_2, r50_3, r50_4, r50_5, r50_6, r50_7, r50_8, r50_9, r50_10, r50_11, r50_12, r50_13, r50_14, r50_15, r50_16, r50_17, r50_18, r50_19, r50_20, r50_21, r50_22, r50_23, r50_24, r50_25, r50_26, r50_27, r50_28, c50, F50, j18, j2, j8, j9, j10, j15, j14, j17, g0, Int.toNat_natCast, mn1, fin1, fin2, h_, go_sem, Int.reduceTMod, Int.reduceTDiv, Int.reduceDiv, Int.reduceMod, Int.reduceAdd, Int.reduceSub, Int.reduceMul, Int.reduceNeg, Int.reducePow, Int.reduceEq, ↓reduceIte, Nat.reduceEqDiff, Nat.reduceAdd, Nat.reduceMul, Nat.reduceLeDiff, Nat.reduceSub, Nat.reduceLT, Int.reduceToNat, Int.reduceLT, Int.reduceLE, reduceCtorEq]))
end Go.Proofs.Ytffhhgcgnillaaa.Sy
