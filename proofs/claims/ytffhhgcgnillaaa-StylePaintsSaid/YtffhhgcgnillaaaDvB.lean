/- Package math/bits walked: two words divided by one. Conditions: those that each theorem names. -/
import Derived.Test.YtffhhgcgnillaaaDvA
import Derived.Test.YtffhhgcgnillaaaWdS
namespace Go.Proofs.Ytffhhgcgnillaaa.Sy
open Go Go.Proofs Go.RowKit
set_option linter.unusedSimpArgs false
set_option linter.unusedVariables false
set_option maxRecDepth 20000
attribute [local go_sem] XK_seq XK_block XK_skip XK_exit XK_ret XK_cond XK_reg XK_dreg XK_ureg KN_seq KN_blk KN_lp KN_chk KN_chku KN_top KN_fin KX_seq KX_lp KX_blk KX_chk KX_top KR_seq KR_blk KR_lp KR_chk KR_top KR_fin FK_true FK_false RK_nil RK_mv RK_pick RK_alloc RK_box RK_build RK_bslice RK_load1 RK_loadA RK_store RK_nilchk RK_bin RK_beq RK_eqv RK_eqnil RK_un RK_conv RK_mkfn RK_mkslice RK_slS RK_slA RK_fadr RK_fld RK_iadrA RK_iadrS RK_idxA RK_istr RK_ext RK_lenC RK_cap RK_app RK_appz RK_pre RK_cpy RK_mn RK_mx RK_len RK_carry RK_clr carryR um0 um1 ThenK_some RK_guard GK_tt GK_ff GK_tf GK_ft GK_none QK_some RK_callQ RK_callZ RK_callT TK_some VK_clo RK_callV
  evalOp evO evOs upd_at unfrz_at putE_some putE_none boolOf_b boolOf_tup Option.map_some evRes pack_one pack_two pack_three pack_none List.getD_cons_zero List.getD_cons_succ getD_nil
  Option.some.injEq exists_eq_left' Reg.cs? fillC setL List.set_cons_zero List.set_cons_succ List.length_cons List.length_nil rd_upd rd_updn rdB wr List.drop_zero List.drop_succ_cons List.take_succ_cons List.take_zero List.getElem?_cons_zero List.getElem?_cons_succ
  ix Int.toNat_zero lenO_sl lenO_nil nadd na_eq na_eq' na_lt na_ee na_ll na_ne na_ne' na_tt
attribute [local go_sem] Reg.flat_one Reg.flat_agg Reg.flat_tup flats_nil flats_cons Cell.flat_sc Cell.flat_ptr List.all_cons List.all_nil disOk safeOk safeR decide_eq_true_eq decide_eq_false_iff_not
  List.map_cons List.map_nil List.cons_append List.nil_append List.append_nil evalOp.capsOf Bool.false_bne Bool.bne_false Bool.true_bne Bool.bne_true bne_self_eq_false beq_self_eq_true Bool.not_not Bool.false_and Bool.and_false Bool.true_or Bool.or_true beq_iff_eq eqCells
  Bool.true_beq Bool.false_beq Bool.not_eq_true' Bool.not_eq_eq_eq_not Bool.not_eq_false' and_false false_and frz_at idOf noId Option.isSome_some Bool.and_eq_true
attribute [local go_sem] wr_eq bV_add bV_sub bV_mul bV_eql bV_neq bV_lss bV_leq bV_gtr bV_geq bV_quo bV_rem bV_shr bV_shl uV_not uV_neg wrapU bits_and bits_or bits_xor IntKind.bits Nat.min_eq_left Nat.min_eq_right Nat.min_self
attribute [local go_sem] bne_iff_ne Int.cast_ofNat_Int Nat.zero_add Nat.add_zero and_self and_true true_and ne_eq not_false_eq_true not_true_eq_false decide_true decide_false Bool.false_eq_true Bool.not_true Bool.not_false Bool.true_and Bool.and_true Bool.or_false Bool.false_or Bool.and_self

section
variable {U u Y y1 y0 q r : Int}
/-- A digit that is too great. -/
theorem digit_less (hY : Y = y1 * 4294967296 + y0) (hYp : 0 < Y) (hu0 : 0 ≤ u) (hu1 : u < 4294967296) (hU : U < Y) (hq : q * y1 + r = U)
    (h : 4294967296 ≤ q ∨ 4294967296 * r + u < q * y0) : (U * 4294967296 + u) / Y ≤ q - 1 := by
  have : (U * 4294967296 + u) / Y < q := by
    rcases h with h | h
    · have : (U * 4294967296 + u) / Y < 4294967296 := Int.ediv_lt_of_lt_mul hYp (by omega)
      omega
    · refine Int.ediv_lt_of_lt_mul hYp ?_
      have e : q * Y = (q * y1) * 4294967296 + q * y0 := by rw [hY, Int.mul_add, Int.mul_assoc]
      rw [e]
      omega
  omega
/-- A digit that is small enough. -/
theorem digit_enough (hY : Y = y1 * 4294967296 + y0) (hYp : 0 < Y) (hq : q * y1 + r = U) (h : q * y0 ≤ 4294967296 * r + u) : q ≤ (U * 4294967296 + u) / Y := by
  refine Int.le_ediv_of_mul_le hYp ?_
  have e : q * Y = (q * y1) * 4294967296 + q * y0 := by rw [hY, Int.mul_add, Int.mul_assoc]
  rw [e]
  omega
theorem first_digit (hY : Y = y1 * 4294967296 + y0) (h1 : 2147483648 ≤ y1) (h0 : 0 ≤ y0) (h0' : y0 < 4294967296) (hU0 : 0 ≤ U) (hU : U < Y) (u : Int) (hu0 : 0 ≤ u) (hu1 : u < 4294967296) :
    0 ≤ U / y1 ∧ U / y1 ≤ 4294967297 ∧ (U * 4294967296 + u) / Y ≤ U / y1 := by
  have hYp : 0 < Y := by omega
  have a1 := Int.mul_ediv_add_emod U y1
  have a2 := Int.emod_nonneg U (show y1 ≠ 0 by omega)
  have a3 := Int.emod_lt_of_pos U (show 0 < y1 by omega)
  refine ⟨Int.ediv_nonneg hU0 (by omega), ?_, ?_⟩
  · have : U / y1 < 4294967298 := Int.ediv_lt_of_lt_mul (by omega) (by omega)
    omega
  · have : (U * 4294967296 + u) / Y < U / y1 + 1 := by
      refine Int.ediv_lt_of_lt_mul hYp ?_
      have e : (U / y1 + 1) * Y = (y1 * (U / y1)) * 4294967296 + y1 * 4294967296 + (U / y1 + 1) * y0 := by rw [hY]; grind
      have : 0 ≤ (U / y1 + 1) * y0 := Int.mul_nonneg (by have := Int.ediv_nonneg hU0 (show 0 ≤ y1 by omega); omega) h0
      rw [e]
      omega
    omega
end
theorem dloop0 {U u Y y1 y0 : Int} {m : Mem} {N : Nat} (hY : Y = y1 * 4294967296 + y0) (h1 : 2147483648 ≤ y1) (h1' : y1 < 4294967296) (h0 : 0 ≤ y0) (h0' : y0 < 4294967296)
    (hu0 : 0 ≤ u) (hu1 : u < 4294967296) (hU0 : 0 ≤ U) (hU : U < Y) (K : Kt) :
    ∀ (n : Nat) (q r : Int) (e : Nat → Reg), q * y1 + r = U → 0 ≤ r → r < 4294967296 → 4294967296 - r ≤ n * 2147483648 → 0 ≤ q → q ≤ 4294967297 → (U * 4294967296 + u) / Y ≤ q →
      e 15 = RU q → e 16 = RU r → e 9 = RU y1 → e 10 = RU y0 → e 13 = RU u →
      (∀ e' : Nat → Reg, e' 15 = RU ((U * 4294967296 + u) / Y) → e' 2 = e 2 → e' 8 = e 8 → e' 9 = e 9 → e' 10 = e 10 → e' 11 = e 11 → e' 13 = e 13 → e' 14 = e 14 → KN TA K ⟨e', m, N⟩) →
      XK TA (.loop l50_0) ⟨e, m, N⟩ (Kt.blk 0 K) := by
  have hYp : 0 < Y := by omega
  intro n
  induction n with
  | zero => intro q r e _ _ h2 h3; omega
  | succ n ih =>
    intro q r e hq hr0 hr1 hn hq0 hqb hqt e15 e16 e9 e10 e13 hx
    have p0 : 0 ≤ q * y0 := Int.mul_nonneg hq0 h0
    have p1 : q * y0 ≤ 4294967297 * 4294967295 := Int.mul_le_mul hqb (by omega) h0 (by decide)
    have wq : q * y0 % 18446744073709551616 = q * y0 := Int.emod_eq_of_lt p0 (by omega)
    have wr : (4294967296 * r % 18446744073709551616 + u) % 18446744073709551616 = 4294967296 * r + u := by omega
    have more : (4294967296 ≤ q ∨ 4294967296 * r + u < q * y0) → (U * 4294967296 + u) / Y ≤ q - 1 := digit_less hY hYp hu0 hu1 hU hq
    have w1 : (r + y1) % 18446744073709551616 = r + y1 := by omega
    have e1 : (q - 1) * y1 + (r + y1) = U := by rw [Int.sub_mul, Int.one_mul]; omega
    by_cases c1 : 4294967296 ≤ q ∨ 4294967296 * r + u < q * y0
    · have hless := more c1
      have hQ0 : 0 ≤ (U * 4294967296 + u) / Y := Int.ediv_nonneg (by omega) (by omega)
      have w2 : (q - 1) % 18446744073709551616 = q - 1 := by omega
      by_cases c : 4294967296 ≤ r + y1
      · have p2 : (q - 1) * y0 ≤ 4294967296 * 4294967295 := Int.mul_le_mul (by omega) (by omega) h0 (by decide)
        have hge := digit_enough hY hYp e1 (u := u) (by omega)
        have hqe : q - 1 = (U * 4294967296 + u) / Y := by omega
        by_cases c3 : 4294967296 ≤ q
        · rw [XK_loop]
          try simp only [l50_0, r50_0, r50_1, r50_2, r50_3, r50_4, r50_5, r50_6, r50_7, r50_8, r50_9, r50_10, r50_11, r50_12, r50_13, r50_14, r50_15, r50_16, r50_17, r50_18, r50_19, r50_20, r50_21, r50_22, r50_23, r50_24, r50_25, r50_26, r50_27, r50_28, c50, F50, e15, e16, e9, e10, e13, c3, c, w1, w2, go_sem, Int.reduceTMod, Int.reduceTDiv, Int.reduceDiv, Int.reduceMod, Int.reduceAdd, Int.reduceSub, Int.reduceMul, Int.reduceNeg, Int.reducePow, Int.reduceEq, ↓reduceIte, Nat.reduceEqDiff, Nat.reduceAdd, Nat.reduceMul, Nat.reduceLeDiff, Nat.reduceSub, Nat.reduceLT, Int.reduceToNat, Int.reduceLT, Int.reduceLE, reduceCtorEq]
          repeat' ((first | refine FK_split (fun h_ => ?_) (fun h_ => ?_) | refine GK_split (fun h_ => ?_) (fun h_ => ?_) | refine ite_both (fun h_ => ?_) (fun h_ => ?_)) <;> (try simp only [decide_eq_true_eq, decide_eq_false_iff_not, Bool.not_true, Bool.not_false, Bool.not_eq_true', Bool.not_eq_false', Bool.not_eq_eq_eq_not, Decidable.not_not] at h_) <;> (try simp only [l50_0, r50_0, r50_1, r50_2, r50_3, r50_4, r50_5, r50_6, r50_7, r50_8, r50_9, r50_10, r50_11, r50_12, r50_13, r50_14, r50_15, r50_16, r50_17, r50_18, r50_19, r50_20, r50_21, r50_22, r50_23, r50_24, r50_25, r50_26, r50_27, r50_28, c50, F50, e15, e16, e9, e10, e13, c3, c, w1, w2, h_, go_sem, Int.reduceTMod, Int.reduceTDiv, Int.reduceDiv, Int.reduceMod, Int.reduceAdd, Int.reduceSub, Int.reduceMul, Int.reduceNeg, Int.reducePow, Int.reduceEq, ↓reduceIte, Nat.reduceEqDiff, Nat.reduceAdd, Nat.reduceMul, Nat.reduceLeDiff, Nat.reduceSub, Nat.reduceLT, Int.reduceToNat, Int.reduceLT, Int.reduceLE, reduceCtorEq]))
          refine hx _ ?_ ?_ ?_ ?_ ?_ ?_ ?_ ?_
          · simp only [hqe, go_sem, Int.reduceTMod, Int.reduceTDiv, Int.reduceDiv, Int.reduceMod, Int.reduceAdd, Int.reduceSub, Int.reduceMul, Int.reduceNeg, Int.reducePow, Int.reduceEq, ↓reduceIte, Nat.reduceEqDiff, Nat.reduceAdd, Nat.reduceMul, Nat.reduceLeDiff, Nat.reduceSub, Nat.reduceLT, Int.reduceToNat, Int.reduceLT, Int.reduceLE, reduceCtorEq]
          all_goals simp only [e9, e10, e13, go_sem, Int.reduceTMod, Int.reduceTDiv, Int.reduceDiv, Int.reduceMod, Int.reduceAdd, Int.reduceSub, Int.reduceMul, Int.reduceNeg, Int.reducePow, Int.reduceEq, ↓reduceIte, Nat.reduceEqDiff, Nat.reduceAdd, Nat.reduceMul, Nat.reduceLeDiff, Nat.reduceSub, Nat.reduceLT, Int.reduceToNat, Int.reduceLT, Int.reduceLE, reduceCtorEq]
        · have c4 := c1.resolve_left c3
          rw [XK_loop]
          try simp only [l50_0, r50_0, r50_1, r50_2, r50_3, r50_4, r50_5, r50_6, r50_7, r50_8, r50_9, r50_10, r50_11, r50_12, r50_13, r50_14, r50_15, r50_16, r50_17, r50_18, r50_19, r50_20, r50_21, r50_22, r50_23, r50_24, r50_25, r50_26, r50_27, r50_28, c50, F50, e15, e16, e9, e10, e13, c3, c4, c, w1, w2, wq, wr, go_sem, Int.reduceTMod, Int.reduceTDiv, Int.reduceDiv, Int.reduceMod, Int.reduceAdd, Int.reduceSub, Int.reduceMul, Int.reduceNeg, Int.reducePow, Int.reduceEq, ↓reduceIte, Nat.reduceEqDiff, Nat.reduceAdd, Nat.reduceMul, Nat.reduceLeDiff, Nat.reduceSub, Nat.reduceLT, Int.reduceToNat, Int.reduceLT, Int.reduceLE, reduceCtorEq]
          repeat' ((first | refine FK_split (fun h_ => ?_) (fun h_ => ?_) | refine GK_split (fun h_ => ?_) (fun h_ => ?_) | refine ite_both (fun h_ => ?_) (fun h_ => ?_)) <;> (try simp only [decide_eq_true_eq, decide_eq_false_iff_not, Bool.not_true, Bool.not_false, Bool.not_eq_true', Bool.not_eq_false', Bool.not_eq_eq_eq_not, Decidable.not_not] at h_) <;> (try simp only [l50_0, r50_0, r50_1, r50_2, r50_3, r50_4, r50_5, r50_6, r50_7, r50_8, r50_9, r50_10, r50_11, r50_12, r50_13, r50_14, r50_15, r50_16, r50_17, r50_18, r50_19, r50_20, r50_21, r50_22, r50_23, r50_24, r50_25, r50_26, r50_27, r50_28, c50, F50, e15, e16, e9, e10, e13, c3, c4, c, w1, w2, wq, wr, h_, go_sem, Int.reduceTMod, Int.reduceTDiv, Int.reduceDiv, Int.reduceMod, Int.reduceAdd, Int.reduceSub, Int.reduceMul, Int.reduceNeg, Int.reducePow, Int.reduceEq, ↓reduceIte, Nat.reduceEqDiff, Nat.reduceAdd, Nat.reduceMul, Nat.reduceLeDiff, Nat.reduceSub, Nat.reduceLT, Int.reduceToNat, Int.reduceLT, Int.reduceLE, reduceCtorEq]))
          refine hx _ ?_ ?_ ?_ ?_ ?_ ?_ ?_ ?_
          · simp only [hqe, go_sem, Int.reduceTMod, Int.reduceTDiv, Int.reduceDiv, Int.reduceMod, Int.reduceAdd, Int.reduceSub, Int.reduceMul, Int.reduceNeg, Int.reducePow, Int.reduceEq, ↓reduceIte, Nat.reduceEqDiff, Nat.reduceAdd, Nat.reduceMul, Nat.reduceLeDiff, Nat.reduceSub, Nat.reduceLT, Int.reduceToNat, Int.reduceLT, Int.reduceLE, reduceCtorEq]
          all_goals simp only [e9, e10, e13, go_sem, Int.reduceTMod, Int.reduceTDiv, Int.reduceDiv, Int.reduceMod, Int.reduceAdd, Int.reduceSub, Int.reduceMul, Int.reduceNeg, Int.reducePow, Int.reduceEq, ↓reduceIte, Nat.reduceEqDiff, Nat.reduceAdd, Nat.reduceMul, Nat.reduceLeDiff, Nat.reduceSub, Nat.reduceLT, Int.reduceToNat, Int.reduceLT, Int.reduceLE, reduceCtorEq]
      · have go : ∀ e' : Nat → Reg, e' 15 = RU (q - 1) → e' 16 = RU (r + y1) → e' 2 = e 2 → e' 8 = e 8 → e' 9 = e 9 → e' 10 = e 10 → e' 11 = e 11 → e' 13 = e 13 → e' 14 = e 14 → XK TA (.loop l50_0) ⟨e', m, N⟩ (Kt.blk 0 K) := by
          intro e' k15 k16 k2 k8 k9 k10 k11 k13 k14
          refine ih (q - 1) (r + y1) e' e1 (by omega) (by omega) (by omega) (by omega) (by omega) hless k15 k16 (by rw [k9]; exact e9) (by rw [k10]; exact e10) (by rw [k13]; exact e13) ?_
          intro e2 j15 j2 j8 j9 j10 j11 j13 j14
          exact hx e2 j15 (by rw [j2, k2]) (by rw [j8, k8]) (by rw [j9, k9]) (by rw [j10, k10]) (by rw [j11, k11]) (by rw [j13, k13]) (by rw [j14, k14])
        by_cases c3 : 4294967296 ≤ q
        · rw [XK_loop]
          try simp only [l50_0, r50_0, r50_1, r50_2, r50_3, r50_4, r50_5, r50_6, r50_7, r50_8, r50_9, r50_10, r50_11, r50_12, r50_13, r50_14, r50_15, r50_16, r50_17, r50_18, r50_19, r50_20, r50_21, r50_22, r50_23, r50_24, r50_25, r50_26, r50_27, r50_28, c50, F50, e15, e16, e9, e10, e13, c3, c, w1, w2, go_sem, Int.reduceTMod, Int.reduceTDiv, Int.reduceDiv, Int.reduceMod, Int.reduceAdd, Int.reduceSub, Int.reduceMul, Int.reduceNeg, Int.reducePow, Int.reduceEq, ↓reduceIte, Nat.reduceEqDiff, Nat.reduceAdd, Nat.reduceMul, Nat.reduceLeDiff, Nat.reduceSub, Nat.reduceLT, Int.reduceToNat, Int.reduceLT, Int.reduceLE, reduceCtorEq]
          repeat' ((first | refine FK_split (fun h_ => ?_) (fun h_ => ?_) | refine GK_split (fun h_ => ?_) (fun h_ => ?_) | refine ite_both (fun h_ => ?_) (fun h_ => ?_)) <;> (try simp only [decide_eq_true_eq, decide_eq_false_iff_not, Bool.not_true, Bool.not_false, Bool.not_eq_true', Bool.not_eq_false', Bool.not_eq_eq_eq_not, Decidable.not_not] at h_) <;> (try simp only [l50_0, r50_0, r50_1, r50_2, r50_3, r50_4, r50_5, r50_6, r50_7, r50_8, r50_9, r50_10, r50_11, r50_12, r50_13, r50_14, r50_15, r50_16, r50_17, r50_18, r50_19, r50_20, r50_21, r50_22, r50_23, r50_24, r50_25, r50_26, r50_27, r50_28, c50, F50, e15, e16, e9, e10, e13, c3, c, w1, w2, h_, go_sem, Int.reduceTMod, Int.reduceTDiv, Int.reduceDiv, Int.reduceMod, Int.reduceAdd, Int.reduceSub, Int.reduceMul, Int.reduceNeg, Int.reducePow, Int.reduceEq, ↓reduceIte, Nat.reduceEqDiff, Nat.reduceAdd, Nat.reduceMul, Nat.reduceLeDiff, Nat.reduceSub, Nat.reduceLT, Int.reduceToNat, Int.reduceLT, Int.reduceLE, reduceCtorEq]))
          refine go _ ?_ ?_ ?_ ?_ ?_ ?_ ?_ ?_ ?_
          all_goals simp only [e9, e10, e13, go_sem, Int.reduceTMod, Int.reduceTDiv, Int.reduceDiv, Int.reduceMod, Int.reduceAdd, Int.reduceSub, Int.reduceMul, Int.reduceNeg, Int.reducePow, Int.reduceEq, ↓reduceIte, Nat.reduceEqDiff, Nat.reduceAdd, Nat.reduceMul, Nat.reduceLeDiff, Nat.reduceSub, Nat.reduceLT, Int.reduceToNat, Int.reduceLT, Int.reduceLE, reduceCtorEq]
        · have c4 := c1.resolve_left c3
          rw [XK_loop]
          try simp only [l50_0, r50_0, r50_1, r50_2, r50_3, r50_4, r50_5, r50_6, r50_7, r50_8, r50_9, r50_10, r50_11, r50_12, r50_13, r50_14, r50_15, r50_16, r50_17, r50_18, r50_19, r50_20, r50_21, r50_22, r50_23, r50_24, r50_25, r50_26, r50_27, r50_28, c50, F50, e15, e16, e9, e10, e13, c3, c4, c, w1, w2, wq, wr, go_sem, Int.reduceTMod, Int.reduceTDiv, Int.reduceDiv, Int.reduceMod, Int.reduceAdd, Int.reduceSub, Int.reduceMul, Int.reduceNeg, Int.reducePow, Int.reduceEq, ↓reduceIte, Nat.reduceEqDiff, Nat.reduceAdd, Nat.reduceMul, Nat.reduceLeDiff, Nat.reduceSub, Nat.reduceLT, Int.reduceToNat, Int.reduceLT, Int.reduceLE, reduceCtorEq]
          repeat' ((first | refine FK_split (fun h_ => ?_) (fun h_ => ?_) | refine GK_split (fun h_ => ?_) (fun h_ => ?_) | refine ite_both (fun h_ => ?_) (fun h_ => ?_)) <;> (try simp only [decide_eq_true_eq, decide_eq_false_iff_not, Bool.not_true, Bool.not_false, Bool.not_eq_true', Bool.not_eq_false', Bool.not_eq_eq_eq_not, Decidable.not_not] at h_) <;> (try simp only [l50_0, r50_0, r50_1, r50_2, r50_3, r50_4, r50_5, r50_6, r50_7, r50_8, r50_9, r50_10, r50_11, r50_12, r50_13, r50_14, r50_15, r50_16, r50_17, r50_18, r50_19, r50_20, r50_21, r50_22, r50_23, r50_24, r50_25, r50_26, r50_27, r50_28, c50, F50, e15, e16, e9, e10, e13, c3, c4, c, w1, w2, wq, wr, h_, go_sem, Int.reduceTMod, Int.reduceTDiv, Int.reduceDiv, Int.reduceMod, Int.reduceAdd, Int.reduceSub, Int.reduceMul, Int.reduceNeg, Int.reducePow, Int.reduceEq, ↓reduceIte, Nat.reduceEqDiff, Nat.reduceAdd, Nat.reduceMul, Nat.reduceLeDiff, Nat.reduceSub, Nat.reduceLT, Int.reduceToNat, Int.reduceLT, Int.reduceLE, reduceCtorEq]))
          refine go _ ?_ ?_ ?_ ?_ ?_ ?_ ?_ ?_ ?_
          all_goals simp only [e9, e10, e13, go_sem, Int.reduceTMod, Int.reduceTDiv, Int.reduceDiv, Int.reduceMod, Int.reduceAdd, Int.reduceSub, Int.reduceMul, Int.reduceNeg, Int.reducePow, Int.reduceEq, ↓reduceIte, Nat.reduceEqDiff, Nat.reduceAdd, Nat.reduceMul, Nat.reduceLeDiff, Nat.reduceSub, Nat.reduceLT, Int.reduceToNat, Int.reduceLT, Int.reduceLE, reduceCtorEq]
    · have c3 : ¬ 4294967296 ≤ q := fun h => c1 (Or.inl h)
      have c4 : ¬ 4294967296 * r + u < q * y0 := fun h => c1 (Or.inr h)
      have hge := digit_enough hY hYp hq (u := u) (by omega)
      have hqe : q = (U * 4294967296 + u) / Y := by omega
      rw [XK_loop]
      try simp only [l50_0, r50_0, r50_1, r50_2, r50_3, r50_4, r50_5, r50_6, r50_7, r50_8, r50_9, r50_10, r50_11, r50_12, r50_13, r50_14, r50_15, r50_16, r50_17, r50_18, r50_19, r50_20, r50_21, r50_22, r50_23, r50_24, r50_25, r50_26, r50_27, r50_28, c50, F50, e15, e16, e9, e10, e13, c3, c4, wq, wr, go_sem, Int.reduceTMod, Int.reduceTDiv, Int.reduceDiv, Int.reduceMod, Int.reduceAdd, Int.reduceSub, Int.reduceMul, Int.reduceNeg, Int.reducePow, Int.reduceEq, ↓reduceIte, Nat.reduceEqDiff, Nat.reduceAdd, Nat.reduceMul, Nat.reduceLeDiff, Nat.reduceSub, Nat.reduceLT, Int.reduceToNat, Int.reduceLT, Int.reduceLE, reduceCtorEq]
      repeat' ((first | refine FK_split (fun h_ => ?_) (fun h_ => ?_) | refine GK_split (fun h_ => ?_) (fun h_ => ?_) | refine ite_both (fun h_ => ?_) (fun h_ => ?_)) <;> (try simp only [decide_eq_true_eq, decide_eq_false_iff_not, Bool.not_true, Bool.not_false, Bool.not_eq_true', Bool.not_eq_false', Bool.not_eq_eq_eq_not, Decidable.not_not] at h_) <;> (try simp only [l50_0, r50_0, r50_1, r50_2, r50_3, r50_4, r50_5, r50_6, r50_7, r50_8, r50_9, r50_10, r50_11, r50_12, r50_13, r50_14, r50_15, r50_16, r50_17, r50_18, r50_19, r50_20, r50_21, r50_22, r50_23, r50_24, r50_25, r50_26, r50_27, r50_28, c50, F50, e15, e16, e9, e10, e13, c3, c4, wq, wr, h_, go_sem, Int.reduceTMod, Int.reduceTDiv, Int.reduceDiv, Int.reduceMod, Int.reduceAdd, Int.reduceSub, Int.reduceMul, Int.reduceNeg, Int.reducePow, Int.reduceEq, ↓reduceIte, Nat.reduceEqDiff, Nat.reduceAdd, Nat.reduceMul, Nat.reduceLeDiff, Nat.reduceSub, Nat.reduceLT, Int.reduceToNat, Int.reduceLT, Int.reduceLE, reduceCtorEq]))
      refine hx _ ?_ ?_ ?_ ?_ ?_ ?_ ?_ ?_
      · simp only [e15, hqe, go_sem, Int.reduceTMod, Int.reduceTDiv, Int.reduceDiv, Int.reduceMod, Int.reduceAdd, Int.reduceSub, Int.reduceMul, Int.reduceNeg, Int.reducePow, Int.reduceEq, ↓reduceIte, Nat.reduceEqDiff, Nat.reduceAdd, Nat.reduceMul, Nat.reduceLeDiff, Nat.reduceSub, Nat.reduceLT, Int.reduceToNat, Int.reduceLT, Int.reduceLE, reduceCtorEq]
      all_goals simp only [e9, e10, e13, go_sem, Int.reduceTMod, Int.reduceTDiv, Int.reduceDiv, Int.reduceMod, Int.reduceAdd, Int.reduceSub, Int.reduceMul, Int.reduceNeg, Int.reducePow, Int.reduceEq, ↓reduceIte, Nat.reduceEqDiff, Nat.reduceAdd, Nat.reduceMul, Nat.reduceLeDiff, Nat.reduceSub, Nat.reduceLT, Int.reduceToNat, Int.reduceLT, Int.reduceLE, reduceCtorEq]
end Go.Proofs.Ytffhhgcgnillaaa.Sy
