import Derived.Test.YtkdbnmohpanpfaaMgF
/- May polygons and a window be gone through? all points in room? walked. Conditions: those that each theorem names. -/
namespace Go.Proofs.Ytkdbnmohpanpfaa.Sy
open Go Go.Proofs
set_option linter.unusedSimpArgs false
set_option linter.unusedVariables false
set_option maxRecDepth 20000
attribute [local go_sem] XK_seq XK_block XK_skip XK_exit XK_ret XK_cond XK_reg XK_dreg XK_ureg KN_seq KN_blk KN_lp KN_chk KN_chku KN_top KN_fin KX_seq KX_lp KX_blk KX_chk KX_top KR_seq KR_blk KR_lp KR_chk KR_top KR_fin FK_true FK_false RK_nil RK_mv RK_pick RK_alloc RK_box RK_build RK_bslice RK_load1 RK_loadA RK_store RK_nilchk RK_bin RK_beq RK_eqv RK_eqnil RK_un RK_conv RK_mkfn RK_mkslice RK_slS RK_slA RK_fadr RK_fld RK_iadrA RK_iadrS RK_idxA RK_istr RK_ext RK_lenC RK_cap RK_app RK_appz RK_pre RK_cpy RK_mn RK_mx RK_len RK_carry RK_clr carryR um0 um1 ThenK_some RK_guard GK_tt GK_ff GK_tf GK_ft GK_none QK_some RK_callQ RK_callZ RK_callT TK_some VK_clo RK_callV
  evalOp evO evOs upd_at unfrz_at putE_some putE_none boolOf_b boolOf_tup Option.map_some evRes pack_one pack_two pack_three pack_none List.getD_cons_zero List.getD_cons_succ getD_nil
  Option.some.injEq exists_eq_left' Reg.cs? fillC setL List.set_cons_zero List.set_cons_succ List.length_cons List.length_nil rd_upd rd_updn rdB wr List.drop_zero List.drop_succ_cons List.take_succ_cons List.take_zero List.getElem?_cons_zero List.getElem?_cons_succ
  ix Int.toNat_zero lenO_sl lenO_nil nadd na_eq na_eq' na_lt na_ee na_ll na_ne na_ne' na_tt
attribute [local go_sem] Reg.flat_one Reg.flat_agg Reg.flat_tup flats_nil flats_cons Cell.flat_sc Cell.flat_ptr List.all_cons List.all_nil disOk safeOk safeR decide_eq_true_eq decide_eq_false_iff_not
  List.map_cons List.map_nil List.cons_append List.nil_append List.append_nil evalOp.capsOf Bool.false_bne Bool.bne_false Bool.true_bne Bool.bne_true bne_self_eq_false beq_self_eq_true Bool.not_not Bool.false_and Bool.and_false Bool.true_or Bool.or_true beq_iff_eq eqCells
  Bool.true_beq Bool.false_beq Bool.not_eq_true' Bool.not_eq_eq_eq_not Bool.not_eq_false' and_false false_and frz_at idOf noId Option.isSome_some Bool.and_eq_true
attribute [local go_sem] wr_eq bV_add bV_sub bV_mul bV_eql bV_neq bV_lss bV_leq bV_gtr bV_geq bV_quo bV_rem bV_shr bV_shl uV_not uV_neg wrapU bits_and bits_or bits_xor IntKind.bits Nat.min_eq_left Nat.min_eq_right Nat.min_self
attribute [local go_sem] bne_iff_ne Int.cast_ofNat_Int Nat.zero_add Nat.add_zero and_self and_true true_and ne_eq not_false_eq_true not_true_eq_false decide_true decide_false Bool.false_eq_true Bool.not_true Bool.not_false Bool.true_and Bool.and_true Bool.or_false Bool.false_or Bool.and_self

/-- Is a window right? -/
def winP (x0 y0 x1 y1 : Int) : Prop := (x0 < x1 ∧ y0 < y1) ∧ (-4194304 ≤ x0 ∧ -4194304 ≤ y0) ∧ (x1 ≤ 4194304 ∧ y1 ≤ 4194304) ∧ x1 - x0 ≤ 256 ∧ y1 - y0 ≤ 256
instance (x0 y0 x1 y1 : Int) : Decidable (winP x0 y0 x1 y1) := by unfold winP; infer_instance
theorem v_Window (x0 y0 x1 y1 : Int) (m : Mem) (n : Nat) : callF TA 10 [RI x0, RI y0, RI x1, RI y1] m n = some (RB (decide (winP x0 y0 x1 y1))) := by
  refine callF_of (Fn_ofK (fn := F10) rfl (by simp [F10]) ?_)
  by_cases h1 : x1 ≤ x0
  · rw [decide_eq_false (fun h => by unfold winP at h; omega)]
    try simp only [r10_0, r10_1, r10_2, r10_3, c10, F10, h1, go_sem, Int.reduceTMod, Int.reduceTDiv, Int.reduceDiv, Int.reduceMod, Int.reduceAdd, Int.reduceSub, Int.reduceMul, Int.reduceNeg, Int.reducePow, Int.reduceEq, ↓reduceIte, Nat.reduceEqDiff, Nat.reduceAdd, Nat.reduceMul, Nat.reduceLeDiff, Nat.reduceSub, Nat.reduceLT, Int.reduceToNat, Int.reduceLT, Int.reduceLE, reduceCtorEq]
    repeat' ((first | refine FK_split (fun h_ => ?_) (fun h_ => ?_) | refine GK_split (fun h_ => ?_) (fun h_ => ?_) | refine ite_both (fun h_ => ?_) (fun h_ => ?_)) <;> (try simp only [decide_eq_true_eq, decide_eq_false_iff_not, Bool.not_true, Bool.not_false, Bool.not_eq_true', Bool.not_eq_false', Bool.not_eq_eq_eq_not, Decidable.not_not] at h_) <;> (try simp only [r10_0, r10_1, r10_2, r10_3, c10, F10, h1, h_, go_sem, Int.reduceTMod, Int.reduceTDiv, Int.reduceDiv, Int.reduceMod, Int.reduceAdd, Int.reduceSub, Int.reduceMul, Int.reduceNeg, Int.reducePow, Int.reduceEq, ↓reduceIte, Nat.reduceEqDiff, Nat.reduceAdd, Nat.reduceMul, Nat.reduceLeDiff, Nat.reduceSub, Nat.reduceLT, Int.reduceToNat, Int.reduceLT, Int.reduceLE, reduceCtorEq]))
  by_cases h2 : y1 ≤ y0
  · rw [decide_eq_false (fun h => by unfold winP at h; omega)]
    try simp only [r10_0, r10_1, r10_2, r10_3, c10, F10, h1, h2, go_sem, Int.reduceTMod, Int.reduceTDiv, Int.reduceDiv, Int.reduceMod, Int.reduceAdd, Int.reduceSub, Int.reduceMul, Int.reduceNeg, Int.reducePow, Int.reduceEq, ↓reduceIte, Nat.reduceEqDiff, Nat.reduceAdd, Nat.reduceMul, Nat.reduceLeDiff, Nat.reduceSub, Nat.reduceLT, Int.reduceToNat, Int.reduceLT, Int.reduceLE, reduceCtorEq]
    repeat' ((first | refine FK_split (fun h_ => ?_) (fun h_ => ?_) | refine GK_split (fun h_ => ?_) (fun h_ => ?_) | refine ite_both (fun h_ => ?_) (fun h_ => ?_)) <;> (try simp only [decide_eq_true_eq, decide_eq_false_iff_not, Bool.not_true, Bool.not_false, Bool.not_eq_true', Bool.not_eq_false', Bool.not_eq_eq_eq_not, Decidable.not_not] at h_) <;> (try simp only [r10_0, r10_1, r10_2, r10_3, c10, F10, h1, h2, h_, go_sem, Int.reduceTMod, Int.reduceTDiv, Int.reduceDiv, Int.reduceMod, Int.reduceAdd, Int.reduceSub, Int.reduceMul, Int.reduceNeg, Int.reducePow, Int.reduceEq, ↓reduceIte, Nat.reduceEqDiff, Nat.reduceAdd, Nat.reduceMul, Nat.reduceLeDiff, Nat.reduceSub, Nat.reduceLT, Int.reduceToNat, Int.reduceLT, Int.reduceLE, reduceCtorEq]))
  by_cases h3 : x0 < -4194304
  · rw [decide_eq_false (fun h => by unfold winP at h; omega)]
    try simp only [r10_0, r10_1, r10_2, r10_3, c10, F10, h1, h2, h3, go_sem, Int.reduceTMod, Int.reduceTDiv, Int.reduceDiv, Int.reduceMod, Int.reduceAdd, Int.reduceSub, Int.reduceMul, Int.reduceNeg, Int.reducePow, Int.reduceEq, ↓reduceIte, Nat.reduceEqDiff, Nat.reduceAdd, Nat.reduceMul, Nat.reduceLeDiff, Nat.reduceSub, Nat.reduceLT, Int.reduceToNat, Int.reduceLT, Int.reduceLE, reduceCtorEq]
    repeat' ((first | refine FK_split (fun h_ => ?_) (fun h_ => ?_) | refine GK_split (fun h_ => ?_) (fun h_ => ?_) | refine ite_both (fun h_ => ?_) (fun h_ => ?_)) <;> (try simp only [decide_eq_true_eq, decide_eq_false_iff_not, Bool.not_true, Bool.not_false, Bool.not_eq_true', Bool.not_eq_false', Bool.not_eq_eq_eq_not, Decidable.not_not] at h_) <;> (try simp only [r10_0, r10_1, r10_2, r10_3, c10, F10, h1, h2, h3, h_, go_sem, Int.reduceTMod, Int.reduceTDiv, Int.reduceDiv, Int.reduceMod, Int.reduceAdd, Int.reduceSub, Int.reduceMul, Int.reduceNeg, Int.reducePow, Int.reduceEq, ↓reduceIte, Nat.reduceEqDiff, Nat.reduceAdd, Nat.reduceMul, Nat.reduceLeDiff, Nat.reduceSub, Nat.reduceLT, Int.reduceToNat, Int.reduceLT, Int.reduceLE, reduceCtorEq]))
  by_cases h4 : y0 < -4194304
  · rw [decide_eq_false (fun h => by unfold winP at h; omega)]
    try simp only [r10_0, r10_1, r10_2, r10_3, c10, F10, h1, h2, h3, h4, go_sem, Int.reduceTMod, Int.reduceTDiv, Int.reduceDiv, Int.reduceMod, Int.reduceAdd, Int.reduceSub, Int.reduceMul, Int.reduceNeg, Int.reducePow, Int.reduceEq, ↓reduceIte, Nat.reduceEqDiff, Nat.reduceAdd, Nat.reduceMul, Nat.reduceLeDiff, Nat.reduceSub, Nat.reduceLT, Int.reduceToNat, Int.reduceLT, Int.reduceLE, reduceCtorEq]
    repeat' ((first | refine FK_split (fun h_ => ?_) (fun h_ => ?_) | refine GK_split (fun h_ => ?_) (fun h_ => ?_) | refine ite_both (fun h_ => ?_) (fun h_ => ?_)) <;> (try simp only [decide_eq_true_eq, decide_eq_false_iff_not, Bool.not_true, Bool.not_false, Bool.not_eq_true', Bool.not_eq_false', Bool.not_eq_eq_eq_not, Decidable.not_not] at h_) <;> (try simp only [r10_0, r10_1, r10_2, r10_3, c10, F10, h1, h2, h3, h4, h_, go_sem, Int.reduceTMod, Int.reduceTDiv, Int.reduceDiv, Int.reduceMod, Int.reduceAdd, Int.reduceSub, Int.reduceMul, Int.reduceNeg, Int.reducePow, Int.reduceEq, ↓reduceIte, Nat.reduceEqDiff, Nat.reduceAdd, Nat.reduceMul, Nat.reduceLeDiff, Nat.reduceSub, Nat.reduceLT, Int.reduceToNat, Int.reduceLT, Int.reduceLE, reduceCtorEq]))
  by_cases h5 : 4194304 < x1
  · rw [decide_eq_false (fun h => by unfold winP at h; omega)]
    try simp only [r10_0, r10_1, r10_2, r10_3, c10, F10, h1, h2, h3, h4, h5, go_sem, Int.reduceTMod, Int.reduceTDiv, Int.reduceDiv, Int.reduceMod, Int.reduceAdd, Int.reduceSub, Int.reduceMul, Int.reduceNeg, Int.reducePow, Int.reduceEq, ↓reduceIte, Nat.reduceEqDiff, Nat.reduceAdd, Nat.reduceMul, Nat.reduceLeDiff, Nat.reduceSub, Nat.reduceLT, Int.reduceToNat, Int.reduceLT, Int.reduceLE, reduceCtorEq]
    repeat' ((first | refine FK_split (fun h_ => ?_) (fun h_ => ?_) | refine GK_split (fun h_ => ?_) (fun h_ => ?_) | refine ite_both (fun h_ => ?_) (fun h_ => ?_)) <;> (try simp only [decide_eq_true_eq, decide_eq_false_iff_not, Bool.not_true, Bool.not_false, Bool.not_eq_true', Bool.not_eq_false', Bool.not_eq_eq_eq_not, Decidable.not_not] at h_) <;> (try simp only [r10_0, r10_1, r10_2, r10_3, c10, F10, h1, h2, h3, h4, h5, h_, go_sem, Int.reduceTMod, Int.reduceTDiv, Int.reduceDiv, Int.reduceMod, Int.reduceAdd, Int.reduceSub, Int.reduceMul, Int.reduceNeg, Int.reducePow, Int.reduceEq, ↓reduceIte, Nat.reduceEqDiff, Nat.reduceAdd, Nat.reduceMul, Nat.reduceLeDiff, Nat.reduceSub, Nat.reduceLT, Int.reduceToNat, Int.reduceLT, Int.reduceLE, reduceCtorEq]))
  by_cases h6 : 4194304 < y1
  · rw [decide_eq_false (fun h => by unfold winP at h; omega)]
    try simp only [r10_0, r10_1, r10_2, r10_3, c10, F10, h1, h2, h3, h4, h5, h6, go_sem, Int.reduceTMod, Int.reduceTDiv, Int.reduceDiv, Int.reduceMod, Int.reduceAdd, Int.reduceSub, Int.reduceMul, Int.reduceNeg, Int.reducePow, Int.reduceEq, ↓reduceIte, Nat.reduceEqDiff, Nat.reduceAdd, Nat.reduceMul, Nat.reduceLeDiff, Nat.reduceSub, Nat.reduceLT, Int.reduceToNat, Int.reduceLT, Int.reduceLE, reduceCtorEq]
    repeat' ((first | refine FK_split (fun h_ => ?_) (fun h_ => ?_) | refine GK_split (fun h_ => ?_) (fun h_ => ?_) | refine ite_both (fun h_ => ?_) (fun h_ => ?_)) <;> (try simp only [decide_eq_true_eq, decide_eq_false_iff_not, Bool.not_true, Bool.not_false, Bool.not_eq_true', Bool.not_eq_false', Bool.not_eq_eq_eq_not, Decidable.not_not] at h_) <;> (try simp only [r10_0, r10_1, r10_2, r10_3, c10, F10, h1, h2, h3, h4, h5, h6, h_, go_sem, Int.reduceTMod, Int.reduceTDiv, Int.reduceDiv, Int.reduceMod, Int.reduceAdd, Int.reduceSub, Int.reduceMul, Int.reduceNeg, Int.reducePow, Int.reduceEq, ↓reduceIte, Nat.reduceEqDiff, Nat.reduceAdd, Nat.reduceMul, Nat.reduceLeDiff, Nat.reduceSub, Nat.reduceLT, Int.reduceToNat, Int.reduceLT, Int.reduceLE, reduceCtorEq]))
  have w1 : IntKind.i64.wrap (x1 - x0) = x1 - x0 := wr_eq (by omega) (by omega)
  have w2 : IntKind.i64.wrap (y1 - y0) = y1 - y0 := wr_eq (by omega) (by omega)
  by_cases h7 : x1 - x0 ≤ 256
  · by_cases h8 : y1 - y0 ≤ 256
    · rw [decide_eq_true (by unfold winP; omega)]
      try simp only [r10_0, r10_1, r10_2, r10_3, c10, F10, h1, h2, h3, h4, h5, h6, w1, w2, h7, h8, go_sem, Int.reduceTMod, Int.reduceTDiv, Int.reduceDiv, Int.reduceMod, Int.reduceAdd, Int.reduceSub, Int.reduceMul, Int.reduceNeg, Int.reducePow, Int.reduceEq, ↓reduceIte, Nat.reduceEqDiff, Nat.reduceAdd, Nat.reduceMul, Nat.reduceLeDiff, Nat.reduceSub, Nat.reduceLT, Int.reduceToNat, Int.reduceLT, Int.reduceLE, reduceCtorEq]
      repeat' ((first | refine FK_split (fun h_ => ?_) (fun h_ => ?_) | refine GK_split (fun h_ => ?_) (fun h_ => ?_) | refine ite_both (fun h_ => ?_) (fun h_ => ?_)) <;> (try simp only [decide_eq_true_eq, decide_eq_false_iff_not, Bool.not_true, Bool.not_false, Bool.not_eq_true', Bool.not_eq_false', Bool.not_eq_eq_eq_not, Decidable.not_not] at h_) <;> (try simp only [r10_0, r10_1, r10_2, r10_3, c10, F10, h1, h2, h3, h4, h5, h6, w1, w2, h7, h8, h_, go_sem, Int.reduceTMod, Int.reduceTDiv, Int.reduceDiv, Int.reduceMod, Int.reduceAdd, Int.reduceSub, Int.reduceMul, Int.reduceNeg, Int.reducePow, Int.reduceEq, ↓reduceIte, Nat.reduceEqDiff, Nat.reduceAdd, Nat.reduceMul, Nat.reduceLeDiff, Nat.reduceSub, Nat.reduceLT, Int.reduceToNat, Int.reduceLT, Int.reduceLE, reduceCtorEq]))
    · rw [decide_eq_false (fun h => by unfold winP at h; omega)]
      try simp only [r10_0, r10_1, r10_2, r10_3, c10, F10, h1, h2, h3, h4, h5, h6, w1, w2, h7, h8, go_sem, Int.reduceTMod, Int.reduceTDiv, Int.reduceDiv, Int.reduceMod, Int.reduceAdd, Int.reduceSub, Int.reduceMul, Int.reduceNeg, Int.reducePow, Int.reduceEq, ↓reduceIte, Nat.reduceEqDiff, Nat.reduceAdd, Nat.reduceMul, Nat.reduceLeDiff, Nat.reduceSub, Nat.reduceLT, Int.reduceToNat, Int.reduceLT, Int.reduceLE, reduceCtorEq]
      repeat' ((first | refine FK_split (fun h_ => ?_) (fun h_ => ?_) | refine GK_split (fun h_ => ?_) (fun h_ => ?_) | refine ite_both (fun h_ => ?_) (fun h_ => ?_)) <;> (try simp only [decide_eq_true_eq, decide_eq_false_iff_not, Bool.not_true, Bool.not_false, Bool.not_eq_true', Bool.not_eq_false', Bool.not_eq_eq_eq_not, Decidable.not_not] at h_) <;> (try simp only [r10_0, r10_1, r10_2, r10_3, c10, F10, h1, h2, h3, h4, h5, h6, w1, w2, h7, h8, h_, go_sem, Int.reduceTMod, Int.reduceTDiv, Int.reduceDiv, Int.reduceMod, Int.reduceAdd, Int.reduceSub, Int.reduceMul, Int.reduceNeg, Int.reducePow, Int.reduceEq, ↓reduceIte, Nat.reduceEqDiff, Nat.reduceAdd, Nat.reduceMul, Nat.reduceLeDiff, Nat.reduceSub, Nat.reduceLT, Int.reduceToNat, Int.reduceLT, Int.reduceLE, reduceCtorEq]))
  · rw [decide_eq_false (fun h => by unfold winP at h; omega)]
    try simp only [r10_0, r10_1, r10_2, r10_3, c10, F10, h1, h2, h3, h4, h5, h6, w1, w2, h7, go_sem, Int.reduceTMod, Int.reduceTDiv, Int.reduceDiv, Int.reduceMod, Int.reduceAdd, Int.reduceSub, Int.reduceMul, Int.reduceNeg, Int.reducePow, Int.reduceEq, ↓reduceIte, Nat.reduceEqDiff, Nat.reduceAdd, Nat.reduceMul, Nat.reduceLeDiff, Nat.reduceSub, Nat.reduceLT, Int.reduceToNat, Int.reduceLT, Int.reduceLE, reduceCtorEq]
    repeat' ((first | refine FK_split (fun h_ => ?_) (fun h_ => ?_) | refine GK_split (fun h_ => ?_) (fun h_ => ?_) | refine ite_both (fun h_ => ?_) (fun h_ => ?_)) <;> (try simp only [decide_eq_true_eq, decide_eq_false_iff_not, Bool.not_true, Bool.not_false, Bool.not_eq_true', Bool.not_eq_false', Bool.not_eq_eq_eq_not, Decidable.not_not] at h_) <;> (try simp only [r10_0, r10_1, r10_2, r10_3, c10, F10, h1, h2, h3, h4, h5, h6, w1, w2, h7, h_, go_sem, Int.reduceTMod, Int.reduceTDiv, Int.reduceDiv, Int.reduceMod, Int.reduceAdd, Int.reduceSub, Int.reduceMul, Int.reduceNeg, Int.reducePow, Int.reduceEq, ↓reduceIte, Nat.reduceEqDiff, Nat.reduceAdd, Nat.reduceMul, Nat.reduceLeDiff, Nat.reduceSub, Nat.reduceLT, Int.reduceToNat, Int.reduceLT, Int.reduceLE, reduceCtorEq]))
def pSum (L : List (List Pt)) : Nat → Int
  | 0 => 0
  | i + 1 => pSum L i + (match L[i]? with | some l => (l.length : Int) + 1 | none => 0)
theorem pSum_ge (L : List (List Pt)) : ∀ i, i ≤ L.length → (i : Int) ≤ pSum L i
  | 0, _ => by simp [pSum]
  | i + 1, h => by
    have := pSum_ge L i (by omega)
    rw [pSum, List.getElem?_eq_getElem (by omega)]
    simp only
    omega
theorem v_small (r : Reg) (L : List (List Pt)) (x0 y0 x1 y1 : Int) (m : Mem) (n : Nat) (hr : RPP m n r L) :
    ∃ b, callF TA 9 [r, .agg [I x0, I y0, I x1, I y1]] m n = some (RB b) ∧ (b = true → L.length ≤ 60 ∧ (∀ l ∈ L, l.length ≤ 20) ∧ (winP x0 y0 x1 y1 → (x1 - x0) * (y1 - y0) ≤ 40)) := by
  have hF : Fn TA 9 [r, .agg [I x0, I y0, I x1, I y1]] m n (fun r' _ _ => ∃ b, r' = RB b ∧ (b = true → L.length ≤ 60 ∧ (∀ l ∈ L, l.length ≤ 20) ∧ (winP x0 y0 x1 y1 → (x1 - x0) * (y1 - y0) ≤ 40))) := by
    refine Fn_ofK (fn := F9) rfl (by simp [F9]) ?_
    have hlen := hr.len
    try simp only [r9_0, r9_1, r9_2, r9_3, r9_4, r9_5, r9_6, r9_7, r9_8, r9_9, r9_10, r9_11, r9_12, r9_13, c9, F9, hlen, go_sem, Int.reduceTMod, Int.reduceTDiv, Int.reduceDiv, Int.reduceMod, Int.reduceAdd, Int.reduceSub, Int.reduceMul, Int.reduceNeg, Int.reducePow, Int.reduceEq, ↓reduceIte, Nat.reduceEqDiff, Nat.reduceAdd, Nat.reduceMul, Nat.reduceLeDiff, Nat.reduceSub, Nat.reduceLT, Int.reduceToNat, Int.reduceLT, Int.reduceLE, reduceCtorEq]
    repeat' ((first | refine FK_split (fun h_ => ?_) (fun h_ => ?_) | refine GK_split (fun h_ => ?_) (fun h_ => ?_) | refine ite_both (fun h_ => ?_) (fun h_ => ?_)) <;> (try simp only [decide_eq_true_eq, decide_eq_false_iff_not, Bool.not_true, Bool.not_false, Bool.not_eq_true', Bool.not_eq_false', Bool.not_eq_eq_eq_not, Decidable.not_not] at h_) <;> (try simp only [r9_0, r9_1, r9_2, r9_3, r9_4, r9_5, r9_6, r9_7, r9_8, r9_9, r9_10, r9_11, r9_12, r9_13, c9, F9, hlen, h_, go_sem, Int.reduceTMod, Int.reduceTDiv, Int.reduceDiv, Int.reduceMod, Int.reduceAdd, Int.reduceSub, Int.reduceMul, Int.reduceNeg, Int.reducePow, Int.reduceEq, ↓reduceIte, Nat.reduceEqDiff, Nat.reduceAdd, Nat.reduceMul, Nat.reduceLeDiff, Nat.reduceSub, Nat.reduceLT, Int.reduceToNat, Int.reduceLT, Int.reduceLE, reduceCtorEq]))
    refine XK_iter (inv := fun i t => t.e 10 = RI i ∧ t.e 9 = RI L.length ∧ t.e 8 = r ∧ t.e 3 = .one (.ptr n 0) ∧ t.e 5 = RI (pSum L i) ∧ pSum L i ≤ 60 ∧ (∀ (j : Nat) (l : List Pt), j < i → L[j]? = some l → l.length ≤ 20) ∧ t.n = n + 1 ∧ t.m = upd m n (some ⟨[I x0, I y0, I x1, I y1], true⟩)) L.length
      (fun K _ => ⟨fun i hi t ht next => ?_, fun t ht => ?_⟩) 0 (by omega) _ ⟨?_, ?_, ?_, ?_, ?_, ?_, ?_, ?_, ?_⟩
    · obtain ⟨e, M, N⟩ := t
      obtain ⟨q10, q9, q8, q3, q5, q60, q20, qn, qm⟩ := ht
      simp only at q10 q9 q8 q3 q5 q60 q20 qn qm
      subst qn
      have hp : L[i]? = some L[i] := List.getElem?_eq_getElem hi
      have hrM : RPP M (n + 1) r L := hr.keep (by omega) (fun id hid => by rw [qm, upd_ne _ _ (by omega)])
      obtain ⟨id, off, cap, b, c, hr1, hid, hb, hbc, hc⟩ := hrM.at hp
      have hlc := hc.len
      have hge := pSum_ge L i (by omega)
      have hs : pSum L (i + 1) = pSum L i + (L[i].length + 1) := by rw [pSum, hp]
      generalize pSum L (i + 1) = p1 at *
      generalize pSum L i = p0 at *
      generalize L[i] = l at *
      have c2 : ((i : Int) < (L.length : Int)) = True := eq_true (by omega)
      have c3 : (0 ≤ (i : Int)) = True := eq_true (by omega)
      have c7 : IntKind.i64.wrap ((i : Int) + 1) = ((i + 1 : Nat) : Int) := wr_nat (by omega)
      rw [hr1] at q8
      by_cases h20 : 20 < (l.length : Int)
      · skip
        try simp only [r9_0, r9_1, r9_2, r9_3, r9_4, r9_5, r9_6, r9_7, r9_8, r9_9, r9_10, r9_11, r9_12, r9_13, c9, F9, l9_0, q10, q9, q8, q5, c2, c3, c7, hb, hbc, hlc, h20, Int.toNat_natCast, Nat.mul_one, go_sem, Int.reduceTMod, Int.reduceTDiv, Int.reduceDiv, Int.reduceMod, Int.reduceAdd, Int.reduceSub, Int.reduceMul, Int.reduceNeg, Int.reducePow, Int.reduceEq, ↓reduceIte, Nat.reduceEqDiff, Nat.reduceAdd, Nat.reduceMul, Nat.reduceLeDiff, Nat.reduceSub, Nat.reduceLT, Int.reduceToNat, Int.reduceLT, Int.reduceLE, reduceCtorEq]
        repeat' ((first | refine FK_split (fun h_ => ?_) (fun h_ => ?_) | refine GK_split (fun h_ => ?_) (fun h_ => ?_) | refine ite_both (fun h_ => ?_) (fun h_ => ?_)) <;> (try simp only [decide_eq_true_eq, decide_eq_false_iff_not, Bool.not_true, Bool.not_false, Bool.not_eq_true', Bool.not_eq_false', Bool.not_eq_eq_eq_not, Decidable.not_not] at h_) <;> (try simp only [r9_0, r9_1, r9_2, r9_3, r9_4, r9_5, r9_6, r9_7, r9_8, r9_9, r9_10, r9_11, r9_12, r9_13, c9, F9, l9_0, q10, q9, q8, q5, c2, c3, c7, hb, hbc, hlc, h20, Int.toNat_natCast, Nat.mul_one, h_, go_sem, Int.reduceTMod, Int.reduceTDiv, Int.reduceDiv, Int.reduceMod, Int.reduceAdd, Int.reduceSub, Int.reduceMul, Int.reduceNeg, Int.reducePow, Int.reduceEq, ↓reduceIte, Nat.reduceEqDiff, Nat.reduceAdd, Nat.reduceMul, Nat.reduceLeDiff, Nat.reduceSub, Nat.reduceLT, Int.reduceToNat, Int.reduceLT, Int.reduceLE, reduceCtorEq]))
        exact ⟨false, rfl, fun h => by cases h⟩
      · have w1 : IntKind.i64.wrap ((l.length : Int) + 1) = (l.length : Int) + 1 := wr_eq (by omega) (by omega)
        have w2 : IntKind.i64.wrap (p0 + ((l.length : Int) + 1)) = p1 := (wr_eq (by omega) (by omega)).trans hs.symm
        by_cases h60 : 60 < p1
        · skip
          try simp only [r9_0, r9_1, r9_2, r9_3, r9_4, r9_5, r9_6, r9_7, r9_8, r9_9, r9_10, r9_11, r9_12, r9_13, c9, F9, l9_0, q10, q9, q8, q5, c2, c3, c7, w1, w2, hb, hbc, hlc, h20, h60, Int.toNat_natCast, Nat.mul_one, go_sem, Int.reduceTMod, Int.reduceTDiv, Int.reduceDiv, Int.reduceMod, Int.reduceAdd, Int.reduceSub, Int.reduceMul, Int.reduceNeg, Int.reducePow, Int.reduceEq, ↓reduceIte, Nat.reduceEqDiff, Nat.reduceAdd, Nat.reduceMul, Nat.reduceLeDiff, Nat.reduceSub, Nat.reduceLT, Int.reduceToNat, Int.reduceLT, Int.reduceLE, reduceCtorEq]
          repeat' ((first | refine FK_split (fun h_ => ?_) (fun h_ => ?_) | refine GK_split (fun h_ => ?_) (fun h_ => ?_) | refine ite_both (fun h_ => ?_) (fun h_ => ?_)) <;> (try simp only [decide_eq_true_eq, decide_eq_false_iff_not, Bool.not_true, Bool.not_false, Bool.not_eq_true', Bool.not_eq_false', Bool.not_eq_eq_eq_not, Decidable.not_not] at h_) <;> (try simp only [r9_0, r9_1, r9_2, r9_3, r9_4, r9_5, r9_6, r9_7, r9_8, r9_9, r9_10, r9_11, r9_12, r9_13, c9, F9, l9_0, q10, q9, q8, q5, c2, c3, c7, w1, w2, hb, hbc, hlc, h20, h60, Int.toNat_natCast, Nat.mul_one, h_, go_sem, Int.reduceTMod, Int.reduceTDiv, Int.reduceDiv, Int.reduceMod, Int.reduceAdd, Int.reduceSub, Int.reduceMul, Int.reduceNeg, Int.reducePow, Int.reduceEq, ↓reduceIte, Nat.reduceEqDiff, Nat.reduceAdd, Nat.reduceMul, Nat.reduceLeDiff, Nat.reduceSub, Nat.reduceLT, Int.reduceToNat, Int.reduceLT, Int.reduceLE, reduceCtorEq]))
          exact ⟨false, rfl, fun h => by cases h⟩
        · skip
          try simp only [r9_0, r9_1, r9_2, r9_3, r9_4, r9_5, r9_6, r9_7, r9_8, r9_9, r9_10, r9_11, r9_12, r9_13, c9, F9, l9_0, q10, q9, q8, q5, c2, c3, c7, w1, w2, hb, hbc, hlc, h20, h60, Int.toNat_natCast, Nat.mul_one, go_sem, Int.reduceTMod, Int.reduceTDiv, Int.reduceDiv, Int.reduceMod, Int.reduceAdd, Int.reduceSub, Int.reduceMul, Int.reduceNeg, Int.reducePow, Int.reduceEq, ↓reduceIte, Nat.reduceEqDiff, Nat.reduceAdd, Nat.reduceMul, Nat.reduceLeDiff, Nat.reduceSub, Nat.reduceLT, Int.reduceToNat, Int.reduceLT, Int.reduceLE, reduceCtorEq]
          repeat' ((first | refine FK_split (fun h_ => ?_) (fun h_ => ?_) | refine GK_split (fun h_ => ?_) (fun h_ => ?_) | refine ite_both (fun h_ => ?_) (fun h_ => ?_)) <;> (try simp only [decide_eq_true_eq, decide_eq_false_iff_not, Bool.not_true, Bool.not_false, Bool.not_eq_true', Bool.not_eq_false', Bool.not_eq_eq_eq_not, Decidable.not_not] at h_) <;> (try simp only [r9_0, r9_1, r9_2, r9_3, r9_4, r9_5, r9_6, r9_7, r9_8, r9_9, r9_10, r9_11, r9_12, r9_13, c9, F9, l9_0, q10, q9, q8, q5, c2, c3, c7, w1, w2, hb, hbc, hlc, h20, h60, Int.toNat_natCast, Nat.mul_one, h_, go_sem, Int.reduceTMod, Int.reduceTDiv, Int.reduceDiv, Int.reduceMod, Int.reduceAdd, Int.reduceSub, Int.reduceMul, Int.reduceNeg, Int.reducePow, Int.reduceEq, ↓reduceIte, Nat.reduceEqDiff, Nat.reduceAdd, Nat.reduceMul, Nat.reduceLeDiff, Nat.reduceSub, Nat.reduceLT, Int.reduceToNat, Int.reduceLT, Int.reduceLE, reduceCtorEq]))
          refine next _ ⟨?_, ?_, ?_, ?_, ?_, ?_, ?_, ?_, ?_⟩
          · simp only [go_sem, Int.reduceTMod, Int.reduceTDiv, Int.reduceDiv, Int.reduceMod, Int.reduceAdd, Int.reduceSub, Int.reduceMul, Int.reduceNeg, Int.reducePow, Int.reduceEq, ↓reduceIte, Nat.reduceEqDiff, Nat.reduceAdd, Nat.reduceMul, Nat.reduceLeDiff, Nat.reduceSub, Nat.reduceLT, Int.reduceToNat, Int.reduceLT, Int.reduceLE, reduceCtorEq]
          · simp only [q9, go_sem, Int.reduceTMod, Int.reduceTDiv, Int.reduceDiv, Int.reduceMod, Int.reduceAdd, Int.reduceSub, Int.reduceMul, Int.reduceNeg, Int.reducePow, Int.reduceEq, ↓reduceIte, Nat.reduceEqDiff, Nat.reduceAdd, Nat.reduceMul, Nat.reduceLeDiff, Nat.reduceSub, Nat.reduceLT, Int.reduceToNat, Int.reduceLT, Int.reduceLE, reduceCtorEq]
          · simp only [q8, hr1, go_sem, Int.reduceTMod, Int.reduceTDiv, Int.reduceDiv, Int.reduceMod, Int.reduceAdd, Int.reduceSub, Int.reduceMul, Int.reduceNeg, Int.reducePow, Int.reduceEq, ↓reduceIte, Nat.reduceEqDiff, Nat.reduceAdd, Nat.reduceMul, Nat.reduceLeDiff, Nat.reduceSub, Nat.reduceLT, Int.reduceToNat, Int.reduceLT, Int.reduceLE, reduceCtorEq]
          · simp only [q3, go_sem, Int.reduceTMod, Int.reduceTDiv, Int.reduceDiv, Int.reduceMod, Int.reduceAdd, Int.reduceSub, Int.reduceMul, Int.reduceNeg, Int.reducePow, Int.reduceEq, ↓reduceIte, Nat.reduceEqDiff, Nat.reduceAdd, Nat.reduceMul, Nat.reduceLeDiff, Nat.reduceSub, Nat.reduceLT, Int.reduceToNat, Int.reduceLT, Int.reduceLE, reduceCtorEq]
          · simp only [go_sem, Int.reduceTMod, Int.reduceTDiv, Int.reduceDiv, Int.reduceMod, Int.reduceAdd, Int.reduceSub, Int.reduceMul, Int.reduceNeg, Int.reducePow, Int.reduceEq, ↓reduceIte, Nat.reduceEqDiff, Nat.reduceAdd, Nat.reduceMul, Nat.reduceLeDiff, Nat.reduceSub, Nat.reduceLT, Int.reduceToNat, Int.reduceLT, Int.reduceLE, reduceCtorEq]
          · omega
          · intro j l' hj hl'
            by_cases e : j = i
            · subst e; rw [hp] at hl'; cases hl'; omega
            · exact q20 j l' (by omega) hl'
          · rfl
          · exact qm
    · obtain ⟨e, M, N⟩ := t
      obtain ⟨q10, q9, q8, q3, q5, q60, q20, qn, qm⟩ := ht
      simp only at q10 q9 q8 q3 q5 q60 q20 qn qm
      have hge := pSum_ge L L.length (Nat.le_refl _)
      have c2 : ((L.length : Int) < (L.length : Int)) = False := eq_false (by omega)
      have hb : M n = some ⟨[I x0, I y0, I x1, I y1], true⟩ := by rw [qm, upd_same]
      have hall : ∀ l ∈ L, l.length ≤ 20 := fun l hl => by
        obtain ⟨j, hj, e⟩ := List.getElem_of_mem hl
        exact q20 j l hj (by rw [List.getElem?_eq_getElem hj, e])
      have vW := v_Window x0 y0 x1 y1 (fun _ => none) 0
      by_cases hw : winP x0 y0 x1 y1
      · rw [decide_eq_true hw] at vW
        have hw' := hw
        unfold winP at hw'
        have w1 : IntKind.i64.wrap (x1 - x0) = x1 - x0 := wr_eq (by omega) (by omega)
        have w2 : IntKind.i64.wrap (y1 - y0) = y1 - y0 := wr_eq (by omega) (by omega)
        have hmul : 0 ≤ (x1 - x0) * (y1 - y0) ∧ (x1 - x0) * (y1 - y0) ≤ 65536 := ⟨Int.mul_nonneg (by omega) (by omega), by have := Int.mul_le_mul (show x1 - x0 ≤ 256 by omega) (show y1 - y0 ≤ 256 by omega) (by omega) (by decide); omega⟩
        have w3 : IntKind.i64.wrap ((x1 - x0) * (y1 - y0)) = (x1 - x0) * (y1 - y0) := wr_eq (by omega) (by omega)
        try simp only [r9_0, r9_1, r9_2, r9_3, r9_4, r9_5, r9_6, r9_7, r9_8, r9_9, r9_10, r9_11, r9_12, r9_13, c9, F9, l9_0, q10, q9, q3, hb, c2, vW, w1, w2, w3, go_sem, Int.reduceTMod, Int.reduceTDiv, Int.reduceDiv, Int.reduceMod, Int.reduceAdd, Int.reduceSub, Int.reduceMul, Int.reduceNeg, Int.reducePow, Int.reduceEq, ↓reduceIte, Nat.reduceEqDiff, Nat.reduceAdd, Nat.reduceMul, Nat.reduceLeDiff, Nat.reduceSub, Nat.reduceLT, Int.reduceToNat, Int.reduceLT, Int.reduceLE, reduceCtorEq]
        repeat' ((first | refine FK_split (fun h_ => ?_) (fun h_ => ?_) | refine GK_split (fun h_ => ?_) (fun h_ => ?_) | refine ite_both (fun h_ => ?_) (fun h_ => ?_)) <;> (try simp only [decide_eq_true_eq, decide_eq_false_iff_not, Bool.not_true, Bool.not_false, Bool.not_eq_true', Bool.not_eq_false', Bool.not_eq_eq_eq_not, Decidable.not_not] at h_) <;> (try simp only [r9_0, r9_1, r9_2, r9_3, r9_4, r9_5, r9_6, r9_7, r9_8, r9_9, r9_10, r9_11, r9_12, r9_13, c9, F9, l9_0, q10, q9, q3, hb, c2, vW, w1, w2, w3, h_, go_sem, Int.reduceTMod, Int.reduceTDiv, Int.reduceDiv, Int.reduceMod, Int.reduceAdd, Int.reduceSub, Int.reduceMul, Int.reduceNeg, Int.reducePow, Int.reduceEq, ↓reduceIte, Nat.reduceEqDiff, Nat.reduceAdd, Nat.reduceMul, Nat.reduceLeDiff, Nat.reduceSub, Nat.reduceLT, Int.reduceToNat, Int.reduceLT, Int.reduceLE, reduceCtorEq]))
        exact ⟨_, rfl, fun h => ⟨by omega, hall, fun _ => by simpa using h⟩⟩
      · rw [decide_eq_false hw] at vW
        try simp only [r9_0, r9_1, r9_2, r9_3, r9_4, r9_5, r9_6, r9_7, r9_8, r9_9, r9_10, r9_11, r9_12, r9_13, c9, F9, l9_0, q10, q9, q3, hb, c2, vW, go_sem, Int.reduceTMod, Int.reduceTDiv, Int.reduceDiv, Int.reduceMod, Int.reduceAdd, Int.reduceSub, Int.reduceMul, Int.reduceNeg, Int.reducePow, Int.reduceEq, ↓reduceIte, Nat.reduceEqDiff, Nat.reduceAdd, Nat.reduceMul, Nat.reduceLeDiff, Nat.reduceSub, Nat.reduceLT, Int.reduceToNat, Int.reduceLT, Int.reduceLE, reduceCtorEq]
        repeat' ((first | refine FK_split (fun h_ => ?_) (fun h_ => ?_) | refine GK_split (fun h_ => ?_) (fun h_ => ?_) | refine ite_both (fun h_ => ?_) (fun h_ => ?_)) <;> (try simp only [decide_eq_true_eq, decide_eq_false_iff_not, Bool.not_true, Bool.not_false, Bool.not_eq_true', Bool.not_eq_false', Bool.not_eq_eq_eq_not, Decidable.not_not] at h_) <;> (try simp only [r9_0, r9_1, r9_2, r9_3, r9_4, r9_5, r9_6, r9_7, r9_8, r9_9, r9_10, r9_11, r9_12, r9_13, c9, F9, l9_0, q10, q9, q3, hb, c2, vW, h_, go_sem, Int.reduceTMod, Int.reduceTDiv, Int.reduceDiv, Int.reduceMod, Int.reduceAdd, Int.reduceSub, Int.reduceMul, Int.reduceNeg, Int.reducePow, Int.reduceEq, ↓reduceIte, Nat.reduceEqDiff, Nat.reduceAdd, Nat.reduceMul, Nat.reduceLeDiff, Nat.reduceSub, Nat.reduceLT, Int.reduceToNat, Int.reduceLT, Int.reduceLE, reduceCtorEq]))
        exact ⟨_, rfl, fun _ => ⟨by omega, hall, fun h => absurd h hw⟩⟩
    · simp only [go_sem, Int.reduceTMod, Int.reduceTDiv, Int.reduceDiv, Int.reduceMod, Int.reduceAdd, Int.reduceSub, Int.reduceMul, Int.reduceNeg, Int.reducePow, Int.reduceEq, ↓reduceIte, Nat.reduceEqDiff, Nat.reduceAdd, Nat.reduceMul, Nat.reduceLeDiff, Nat.reduceSub, Nat.reduceLT, Int.reduceToNat, Int.reduceLT, Int.reduceLE, reduceCtorEq]
    · simp only [go_sem, Int.reduceTMod, Int.reduceTDiv, Int.reduceDiv, Int.reduceMod, Int.reduceAdd, Int.reduceSub, Int.reduceMul, Int.reduceNeg, Int.reducePow, Int.reduceEq, ↓reduceIte, Nat.reduceEqDiff, Nat.reduceAdd, Nat.reduceMul, Nat.reduceLeDiff, Nat.reduceSub, Nat.reduceLT, Int.reduceToNat, Int.reduceLT, Int.reduceLE, reduceCtorEq]
    · simp only [go_sem, Int.reduceTMod, Int.reduceTDiv, Int.reduceDiv, Int.reduceMod, Int.reduceAdd, Int.reduceSub, Int.reduceMul, Int.reduceNeg, Int.reducePow, Int.reduceEq, ↓reduceIte, Nat.reduceEqDiff, Nat.reduceAdd, Nat.reduceMul, Nat.reduceLeDiff, Nat.reduceSub, Nat.reduceLT, Int.reduceToNat, Int.reduceLT, Int.reduceLE, reduceCtorEq]
    · simp only [go_sem, Int.reduceTMod, Int.reduceTDiv, Int.reduceDiv, Int.reduceMod, Int.reduceAdd, Int.reduceSub, Int.reduceMul, Int.reduceNeg, Int.reducePow, Int.reduceEq, ↓reduceIte, Nat.reduceEqDiff, Nat.reduceAdd, Nat.reduceMul, Nat.reduceLeDiff, Nat.reduceSub, Nat.reduceLT, Int.reduceToNat, Int.reduceLT, Int.reduceLE, reduceCtorEq]
    · simp only [pSum, go_sem, Int.reduceTMod, Int.reduceTDiv, Int.reduceDiv, Int.reduceMod, Int.reduceAdd, Int.reduceSub, Int.reduceMul, Int.reduceNeg, Int.reducePow, Int.reduceEq, ↓reduceIte, Nat.reduceEqDiff, Nat.reduceAdd, Nat.reduceMul, Nat.reduceLeDiff, Nat.reduceSub, Nat.reduceLT, Int.reduceToNat, Int.reduceLT, Int.reduceLE, reduceCtorEq]
    · simp [pSum]
    · intro j l hj; omega
    · rfl
    · rfl
  obtain ⟨r', h1, b, rfl, h2⟩ := callF_ex hF
  exact ⟨b, h1, h2⟩
/-- Rows of points alone. -/
def RPs (m : Mem) (n : Nat) (r : Reg) (L : List (List Pt)) : Prop :=
  ∃ cs : List Cell, cs.length = L.length ∧ RL enc1 1 m n r cs ∧ ∀ (i : Nat) (c : Cell) (l : List Pt), cs[i]? = some c → L[i]? = some l → RPt m n (.one c) l
theorem RPs.pp {m : Mem} {n : Nat} {r : Reg} {L : List (List Pt)} (h : RPs m n r L) : RPP m n r L := by
  obtain ⟨cs, h1, h2, h3⟩ := h
  exact ⟨cs, h1, h2, fun i c l hc hl => Or.inl (h3 i c l hc hl)⟩
theorem RPs.frz {m : Mem} {n : Nat} {r : Reg} {L : List (List Pt)} (h : RPs m n r L) : RPs (frz m) n r L := by
  obtain ⟨cs, h1, h2, h3⟩ := h
  exact ⟨cs, h1, RL.frz h2, fun i c l hc hl => RL.frz (h3 i c l hc hl)⟩
theorem RPs.at {m : Mem} {n : Nat} {r : Reg} {L : List (List Pt)} {i : Nat} {l : List Pt} (h : RPs m n r L) (hi : L[i]? = some l) :
    ∃ id off cap b c, r = .one (.sl id off L.length cap 1) ∧ id < n ∧ m id = some b ∧ b.cells[off + i]? = some c ∧ RPt m n (.one c) l := by
  obtain ⟨cs, h1, h2, h3⟩ := h
  have hlt : i < L.length := (List.getElem?_eq_some_iff.1 hi).1
  have hc : cs[i]? = some (cs[i]'(by omega)) := List.getElem?_eq_getElem (by omega)
  obtain ⟨id, off, cap, e1, e2, e3⟩ := h2.at ce1 hc
  obtain ⟨b, h4, h5⟩ := rd_cell e3 (a := 0) (c := cs[i]'(by omega)) rfl
  rw [Nat.mul_one, Nat.add_zero] at h5
  rw [h1] at e1
  exact ⟨id, off, cap, b, _, e1, e2, h4, h5, h3 i _ l hc hi⟩
theorem OPP.s {base : Nat} {m : Mem} {n : Nat} {r : Reg} {L : List (List Pt)} (h : OPP base m n r L) : RPs m n r L := by
  obtain ⟨cs, h1, h2, h3⟩ := h
  exact ⟨cs, h1, h2.rl ce1, fun i c l hc hl => (h3 i c l hc hl).1⟩

/- All points in room? and the law CoverInside, walked. Conditions: those that each theorem names. -/
open Go Go.Proofs
set_option linter.unusedSimpArgs false
set_option linter.unusedVariables false

def inLL (L : List (List Pt)) : Bool := L.all fun l => l.all inP
theorem inLL_false {L : List (List Pt)} {i j : Nat} {l : List Pt} {p : Pt} (hl : L[i]? = some l) (hp : l[j]? = some p) (h : inP p = false) : inLL L = false := by
  unfold inLL
  rw [List.all_eq_false]
  refine ⟨l, List.mem_of_getElem? hl, ?_⟩
  rw [Bool.not_eq_true, List.all_eq_false]
  exact ⟨p, List.mem_of_getElem? hp, by simp [h]⟩
theorem v_In08 (r : Reg) (L : List (List Pt)) (m : Mem) (n : Nat) (hr : RPs m n r L) (h1 : L.length ≤ 60) (h2 : ∀ l ∈ L, l.length ≤ 20) : callF TA 13 [r] m n = some (RB (inLL L)) := by
  refine callF_of (Fn_ofK (fn := F13) rfl (by simp [F13]) ?_)
  have hlen := hr.pp.len
  try simp only [r13_0, r13_1, r13_2, r13_4, r13_5, r13_7, r13_8, r13_6, r13_3, r13_9, c13, F13, go_sem, Int.reduceTMod, Int.reduceTDiv, Int.reduceDiv, Int.reduceMod, Int.reduceAdd, Int.reduceSub, Int.reduceMul, Int.reduceNeg, Int.reducePow, Int.reduceEq, ↓reduceIte, Nat.reduceEqDiff, Nat.reduceAdd, Nat.reduceMul, Nat.reduceLeDiff, Nat.reduceSub, Nat.reduceLT, Int.reduceToNat, Int.reduceLT, Int.reduceLE, reduceCtorEq]
  repeat' ((first | refine FK_split (fun h_ => ?_) (fun h_ => ?_) | refine GK_split (fun h_ => ?_) (fun h_ => ?_) | refine ite_both (fun h_ => ?_) (fun h_ => ?_)) <;> (try simp only [decide_eq_true_eq, decide_eq_false_iff_not, Bool.not_true, Bool.not_false, Bool.not_eq_true', Bool.not_eq_false', Bool.not_eq_eq_eq_not, Decidable.not_not] at h_) <;> (try simp only [r13_0, r13_1, r13_2, r13_4, r13_5, r13_7, r13_8, r13_6, r13_3, r13_9, c13, F13, h_, go_sem, Int.reduceTMod, Int.reduceTDiv, Int.reduceDiv, Int.reduceMod, Int.reduceAdd, Int.reduceSub, Int.reduceMul, Int.reduceNeg, Int.reducePow, Int.reduceEq, ↓reduceIte, Nat.reduceEqDiff, Nat.reduceAdd, Nat.reduceMul, Nat.reduceLeDiff, Nat.reduceSub, Nat.reduceLT, Int.reduceToNat, Int.reduceLT, Int.reduceLE, reduceCtorEq]))
  refine XK_iter (inv := fun i t => t.e 3 = RI i ∧ t.e 0 = r ∧ t.n = n ∧ t.m = m ∧ ∀ (j : Nat) (l : List Pt), j < i → L[j]? = some l → l.all inP = true) L.length
    (fun K _ => ⟨fun i hi t ht next => ?_, fun t ht => ?_⟩) 0 (by omega) _ ⟨?_, ?_, ?_, ?_, ?_⟩
  · obtain ⟨e, M, N⟩ := t
    obtain ⟨q3, q0, qn, qm, qa⟩ := ht
    simp only at q3 q0 qn qm qa
    subst qn
    subst qm
    have hp : L[i]? = some L[i] := List.getElem?_eq_getElem hi
    obtain ⟨id, off, cap, b, c, hr1, hid, hb, hbc, hc⟩ := hr.at hp
    have hlc := hc.len
    have hl20 := h2 _ (List.getElem_mem hi)
    generalize L[i] = l at *
    have c2 : ((i : Int) < (L.length : Int)) = True := eq_true (by omega)
    have c3 : (0 ≤ (i : Int)) = True := eq_true (by omega)
    have c7 : IntKind.i64.wrap ((i : Int) + 1) = ((i + 1 : Nat) : Int) := wr_nat (by omega)
    have q0' := q0
    rw [hr1] at q0' hlen
    try simp only [r13_0, r13_1, r13_2, r13_4, r13_5, r13_7, r13_8, r13_6, r13_3, r13_9, c13, F13, l13_1, q3, q0', hlen, c2, go_sem, Int.reduceTMod, Int.reduceTDiv, Int.reduceDiv, Int.reduceMod, Int.reduceAdd, Int.reduceSub, Int.reduceMul, Int.reduceNeg, Int.reducePow, Int.reduceEq, ↓reduceIte, Nat.reduceEqDiff, Nat.reduceAdd, Nat.reduceMul, Nat.reduceLeDiff, Nat.reduceSub, Nat.reduceLT, Int.reduceToNat, Int.reduceLT, Int.reduceLE, reduceCtorEq]
    repeat' ((first | refine FK_split (fun h_ => ?_) (fun h_ => ?_) | refine GK_split (fun h_ => ?_) (fun h_ => ?_) | refine ite_both (fun h_ => ?_) (fun h_ => ?_)) <;> (try simp only [decide_eq_true_eq, decide_eq_false_iff_not, Bool.not_true, Bool.not_false, Bool.not_eq_true', Bool.not_eq_false', Bool.not_eq_eq_eq_not, Decidable.not_not] at h_) <;> (try simp only [r13_0, r13_1, r13_2, r13_4, r13_5, r13_7, r13_8, r13_6, r13_3, r13_9, c13, F13, l13_1, q3, q0', hlen, c2, h_, go_sem, Int.reduceTMod, Int.reduceTDiv, Int.reduceDiv, Int.reduceMod, Int.reduceAdd, Int.reduceSub, Int.reduceMul, Int.reduceNeg, Int.reducePow, Int.reduceEq, ↓reduceIte, Nat.reduceEqDiff, Nat.reduceAdd, Nat.reduceMul, Nat.reduceLeDiff, Nat.reduceSub, Nat.reduceLT, Int.reduceToNat, Int.reduceLT, Int.reduceLE, reduceCtorEq]))
    refine XK_iter (inv := fun j t => t.e 4 = RI j ∧ t.e 3 = RI i ∧ t.e 0 = r ∧ t.n = N ∧ t.m = M ∧ ∀ (k : Nat) (p : Pt), k < j → l[k]? = some p → inP p = true) l.length
      (fun K2 _ => ⟨fun j hj t ht next2 => ?_, fun t ht => ?_⟩) 0 (by omega) _ ⟨?_, ?_, ?_, ?_, ?_, ?_⟩
    · obtain ⟨e4, M4, N4⟩ := t
      obtain ⟨t4, t3, t0, tn, tm, ta⟩ := ht
      simp only at t4 t3 t0 tn tm ta
      subst tn
      subst tm
      have hpj : l[j]? = some l[j] := List.getElem?_eq_getElem hj
      obtain ⟨id2, off2, cap2, e2, hid2, hrd⟩ := hc.at cs2 hpj
      obtain ⟨b2, hb2, hx⟩ := rd_cell hrd (a := 0) (c := I l[j].x) rfl
      obtain ⟨b3, hb3, hy⟩ := rd_cell hrd (a := 1) (c := I l[j].y) rfl
      rw [hb2] at hb3
      cases hb3
      rw [Nat.add_zero] at hx
      rw [Nat.add_assoc] at hy
      have hfalse : inP l[j] = false → inLL L = false := inLL_false hp hpj
      generalize l[j] = p at *
      injection e2 with e2
      subst e2
      have g1 : ((j : Int) < (l.length : Int)) = True := eq_true (by omega)
      have g2 : (0 ≤ (j : Int)) = True := eq_true (by omega)
      have g5 : IntKind.i64.wrap ((j : Int) + 1) = ((j + 1 : Nat) : Int) := wr_nat (by omega)
      rw [hr1] at t0
      have vx := v_rIn p.x (fun _ => none) 0
      have vy := v_rIn p.y (fun _ => none) 0
      cases hpx : rm p.x
      · have hf := hfalse (by unfold inP; rw [hpx]; rfl)
        rw [hpx] at vx
        try simp only [r13_0, r13_1, r13_2, r13_4, r13_5, r13_7, r13_8, r13_6, r13_3, r13_9, c13, F13, l13_0, t4, t3, t0, hlc, c2, c3, hb, hbc, g1, g2, g5, hb2, hx, hy, vx, hf, Int.toNat_natCast, Nat.mul_one, go_sem, Int.reduceTMod, Int.reduceTDiv, Int.reduceDiv, Int.reduceMod, Int.reduceAdd, Int.reduceSub, Int.reduceMul, Int.reduceNeg, Int.reducePow, Int.reduceEq, ↓reduceIte, Nat.reduceEqDiff, Nat.reduceAdd, Nat.reduceMul, Nat.reduceLeDiff, Nat.reduceSub, Nat.reduceLT, Int.reduceToNat, Int.reduceLT, Int.reduceLE, reduceCtorEq]
        repeat' ((first | refine FK_split (fun h_ => ?_) (fun h_ => ?_) | refine GK_split (fun h_ => ?_) (fun h_ => ?_) | refine ite_both (fun h_ => ?_) (fun h_ => ?_)) <;> (try simp only [decide_eq_true_eq, decide_eq_false_iff_not, Bool.not_true, Bool.not_false, Bool.not_eq_true', Bool.not_eq_false', Bool.not_eq_eq_eq_not, Decidable.not_not] at h_) <;> (try simp only [r13_0, r13_1, r13_2, r13_4, r13_5, r13_7, r13_8, r13_6, r13_3, r13_9, c13, F13, l13_0, t4, t3, t0, hlc, c2, c3, hb, hbc, g1, g2, g5, hb2, hx, hy, vx, hf, Int.toNat_natCast, Nat.mul_one, h_, go_sem, Int.reduceTMod, Int.reduceTDiv, Int.reduceDiv, Int.reduceMod, Int.reduceAdd, Int.reduceSub, Int.reduceMul, Int.reduceNeg, Int.reducePow, Int.reduceEq, ↓reduceIte, Nat.reduceEqDiff, Nat.reduceAdd, Nat.reduceMul, Nat.reduceLeDiff, Nat.reduceSub, Nat.reduceLT, Int.reduceToNat, Int.reduceLT, Int.reduceLE, reduceCtorEq]))
      · cases hpy : rm p.y
        · have hf := hfalse (by unfold inP; rw [hpx, hpy]; rfl)
          rw [hpx] at vx
          rw [hpy] at vy
          try simp only [r13_0, r13_1, r13_2, r13_4, r13_5, r13_7, r13_8, r13_6, r13_3, r13_9, c13, F13, l13_0, t4, t3, t0, hlc, c2, c3, hb, hbc, g1, g2, g5, hb2, hx, hy, vx, vy, hf, Int.toNat_natCast, Nat.mul_one, go_sem, Int.reduceTMod, Int.reduceTDiv, Int.reduceDiv, Int.reduceMod, Int.reduceAdd, Int.reduceSub, Int.reduceMul, Int.reduceNeg, Int.reducePow, Int.reduceEq, ↓reduceIte, Nat.reduceEqDiff, Nat.reduceAdd, Nat.reduceMul, Nat.reduceLeDiff, Nat.reduceSub, Nat.reduceLT, Int.reduceToNat, Int.reduceLT, Int.reduceLE, reduceCtorEq]
          repeat' ((first | refine FK_split (fun h_ => ?_) (fun h_ => ?_) | refine GK_split (fun h_ => ?_) (fun h_ => ?_) | refine ite_both (fun h_ => ?_) (fun h_ => ?_)) <;> (try simp only [decide_eq_true_eq, decide_eq_false_iff_not, Bool.not_true, Bool.not_false, Bool.not_eq_true', Bool.not_eq_false', Bool.not_eq_eq_eq_not, Decidable.not_not] at h_) <;> (try simp only [r13_0, r13_1, r13_2, r13_4, r13_5, r13_7, r13_8, r13_6, r13_3, r13_9, c13, F13, l13_0, t4, t3, t0, hlc, c2, c3, hb, hbc, g1, g2, g5, hb2, hx, hy, vx, vy, hf, Int.toNat_natCast, Nat.mul_one, h_, go_sem, Int.reduceTMod, Int.reduceTDiv, Int.reduceDiv, Int.reduceMod, Int.reduceAdd, Int.reduceSub, Int.reduceMul, Int.reduceNeg, Int.reducePow, Int.reduceEq, ↓reduceIte, Nat.reduceEqDiff, Nat.reduceAdd, Nat.reduceMul, Nat.reduceLeDiff, Nat.reduceSub, Nat.reduceLT, Int.reduceToNat, Int.reduceLT, Int.reduceLE, reduceCtorEq]))
        · rw [hpx] at vx
          rw [hpy] at vy
          try simp only [r13_0, r13_1, r13_2, r13_4, r13_5, r13_7, r13_8, r13_6, r13_3, r13_9, c13, F13, l13_0, t4, t3, t0, hlc, c2, c3, hb, hbc, g1, g2, g5, hb2, hx, hy, vx, vy, Int.toNat_natCast, Nat.mul_one, go_sem, Int.reduceTMod, Int.reduceTDiv, Int.reduceDiv, Int.reduceMod, Int.reduceAdd, Int.reduceSub, Int.reduceMul, Int.reduceNeg, Int.reducePow, Int.reduceEq, ↓reduceIte, Nat.reduceEqDiff, Nat.reduceAdd, Nat.reduceMul, Nat.reduceLeDiff, Nat.reduceSub, Nat.reduceLT, Int.reduceToNat, Int.reduceLT, Int.reduceLE, reduceCtorEq]
          repeat' ((first | refine FK_split (fun h_ => ?_) (fun h_ => ?_) | refine GK_split (fun h_ => ?_) (fun h_ => ?_) | refine ite_both (fun h_ => ?_) (fun h_ => ?_)) <;> (try simp only [decide_eq_true_eq, decide_eq_false_iff_not, Bool.not_true, Bool.not_false, Bool.not_eq_true', Bool.not_eq_false', Bool.not_eq_eq_eq_not, Decidable.not_not] at h_) <;> (try simp only [r13_0, r13_1, r13_2, r13_4, r13_5, r13_7, r13_8, r13_6, r13_3, r13_9, c13, F13, l13_0, t4, t3, t0, hlc, c2, c3, hb, hbc, g1, g2, g5, hb2, hx, hy, vx, vy, Int.toNat_natCast, Nat.mul_one, h_, go_sem, Int.reduceTMod, Int.reduceTDiv, Int.reduceDiv, Int.reduceMod, Int.reduceAdd, Int.reduceSub, Int.reduceMul, Int.reduceNeg, Int.reducePow, Int.reduceEq, ↓reduceIte, Nat.reduceEqDiff, Nat.reduceAdd, Nat.reduceMul, Nat.reduceLeDiff, Nat.reduceSub, Nat.reduceLT, Int.reduceToNat, Int.reduceLT, Int.reduceLE, reduceCtorEq]))
          refine next2 _ ⟨?_, ?_, ?_, ?_, ?_, ?_⟩
          · simp only [go_sem, Int.reduceTMod, Int.reduceTDiv, Int.reduceDiv, Int.reduceMod, Int.reduceAdd, Int.reduceSub, Int.reduceMul, Int.reduceNeg, Int.reducePow, Int.reduceEq, ↓reduceIte, Nat.reduceEqDiff, Nat.reduceAdd, Nat.reduceMul, Nat.reduceLeDiff, Nat.reduceSub, Nat.reduceLT, Int.reduceToNat, Int.reduceLT, Int.reduceLE, reduceCtorEq]
          · simp only [t3, go_sem, Int.reduceTMod, Int.reduceTDiv, Int.reduceDiv, Int.reduceMod, Int.reduceAdd, Int.reduceSub, Int.reduceMul, Int.reduceNeg, Int.reducePow, Int.reduceEq, ↓reduceIte, Nat.reduceEqDiff, Nat.reduceAdd, Nat.reduceMul, Nat.reduceLeDiff, Nat.reduceSub, Nat.reduceLT, Int.reduceToNat, Int.reduceLT, Int.reduceLE, reduceCtorEq]
          · simp only [t0, hr1, go_sem, Int.reduceTMod, Int.reduceTDiv, Int.reduceDiv, Int.reduceMod, Int.reduceAdd, Int.reduceSub, Int.reduceMul, Int.reduceNeg, Int.reducePow, Int.reduceEq, ↓reduceIte, Nat.reduceEqDiff, Nat.reduceAdd, Nat.reduceMul, Nat.reduceLeDiff, Nat.reduceSub, Nat.reduceLT, Int.reduceToNat, Int.reduceLT, Int.reduceLE, reduceCtorEq]
          · rfl
          · rfl
          · intro k p' hk hp'
            by_cases e : k = j
            · subst e
              rw [hpj] at hp'
              cases hp'
              unfold inP
              rw [hpx, hpy]
              rfl
            · exact ta k p' (by omega) hp'
    · obtain ⟨e4, M4, N4⟩ := t
      obtain ⟨t4, t3, t0, tn, tm, ta⟩ := ht
      simp only at t4 t3 t0 tn tm ta
      subst tn
      subst tm
      have g1 : ((l.length : Int) < (l.length : Int)) = False := eq_false (by omega)
      rw [hr1] at t0
      try simp only [r13_0, r13_1, r13_2, r13_4, r13_5, r13_7, r13_8, r13_6, r13_3, r13_9, c13, F13, l13_0, t4, t3, t0, hlc, c2, c3, hb, hbc, g1, c7, Int.toNat_natCast, Nat.mul_one, go_sem, Int.reduceTMod, Int.reduceTDiv, Int.reduceDiv, Int.reduceMod, Int.reduceAdd, Int.reduceSub, Int.reduceMul, Int.reduceNeg, Int.reducePow, Int.reduceEq, ↓reduceIte, Nat.reduceEqDiff, Nat.reduceAdd, Nat.reduceMul, Nat.reduceLeDiff, Nat.reduceSub, Nat.reduceLT, Int.reduceToNat, Int.reduceLT, Int.reduceLE, reduceCtorEq]
      repeat' ((first | refine FK_split (fun h_ => ?_) (fun h_ => ?_) | refine GK_split (fun h_ => ?_) (fun h_ => ?_) | refine ite_both (fun h_ => ?_) (fun h_ => ?_)) <;> (try simp only [decide_eq_true_eq, decide_eq_false_iff_not, Bool.not_true, Bool.not_false, Bool.not_eq_true', Bool.not_eq_false', Bool.not_eq_eq_eq_not, Decidable.not_not] at h_) <;> (try simp only [r13_0, r13_1, r13_2, r13_4, r13_5, r13_7, r13_8, r13_6, r13_3, r13_9, c13, F13, l13_0, t4, t3, t0, hlc, c2, c3, hb, hbc, g1, c7, Int.toNat_natCast, Nat.mul_one, h_, go_sem, Int.reduceTMod, Int.reduceTDiv, Int.reduceDiv, Int.reduceMod, Int.reduceAdd, Int.reduceSub, Int.reduceMul, Int.reduceNeg, Int.reducePow, Int.reduceEq, ↓reduceIte, Nat.reduceEqDiff, Nat.reduceAdd, Nat.reduceMul, Nat.reduceLeDiff, Nat.reduceSub, Nat.reduceLT, Int.reduceToNat, Int.reduceLT, Int.reduceLE, reduceCtorEq]))
      refine next _ ⟨?_, ?_, ?_, ?_, ?_⟩
      · simp only [go_sem, Int.reduceTMod, Int.reduceTDiv, Int.reduceDiv, Int.reduceMod, Int.reduceAdd, Int.reduceSub, Int.reduceMul, Int.reduceNeg, Int.reducePow, Int.reduceEq, ↓reduceIte, Nat.reduceEqDiff, Nat.reduceAdd, Nat.reduceMul, Nat.reduceLeDiff, Nat.reduceSub, Nat.reduceLT, Int.reduceToNat, Int.reduceLT, Int.reduceLE, reduceCtorEq]
      · simp only [t0, hr1, go_sem, Int.reduceTMod, Int.reduceTDiv, Int.reduceDiv, Int.reduceMod, Int.reduceAdd, Int.reduceSub, Int.reduceMul, Int.reduceNeg, Int.reducePow, Int.reduceEq, ↓reduceIte, Nat.reduceEqDiff, Nat.reduceAdd, Nat.reduceMul, Nat.reduceLeDiff, Nat.reduceSub, Nat.reduceLT, Int.reduceToNat, Int.reduceLT, Int.reduceLE, reduceCtorEq]
      · rfl
      · rfl
      · intro j l' hj hl'
        by_cases e : j = i
        · subst e
          rw [hp] at hl'
          cases hl'
          rw [List.all_eq_true]
          intro p hpm
          obtain ⟨k, hk, e⟩ := List.getElem_of_mem hpm
          exact ta k p hk (by rw [List.getElem?_eq_getElem hk, e])
        · exact qa j l' (by omega) hl'
    · simp only [go_sem, Int.reduceTMod, Int.reduceTDiv, Int.reduceDiv, Int.reduceMod, Int.reduceAdd, Int.reduceSub, Int.reduceMul, Int.reduceNeg, Int.reducePow, Int.reduceEq, ↓reduceIte, Nat.reduceEqDiff, Nat.reduceAdd, Nat.reduceMul, Nat.reduceLeDiff, Nat.reduceSub, Nat.reduceLT, Int.reduceToNat, Int.reduceLT, Int.reduceLE, reduceCtorEq]
    · simp only [q3, go_sem, Int.reduceTMod, Int.reduceTDiv, Int.reduceDiv, Int.reduceMod, Int.reduceAdd, Int.reduceSub, Int.reduceMul, Int.reduceNeg, Int.reducePow, Int.reduceEq, ↓reduceIte, Nat.reduceEqDiff, Nat.reduceAdd, Nat.reduceMul, Nat.reduceLeDiff, Nat.reduceSub, Nat.reduceLT, Int.reduceToNat, Int.reduceLT, Int.reduceLE, reduceCtorEq]
    · simp only [q0, go_sem, Int.reduceTMod, Int.reduceTDiv, Int.reduceDiv, Int.reduceMod, Int.reduceAdd, Int.reduceSub, Int.reduceMul, Int.reduceNeg, Int.reducePow, Int.reduceEq, ↓reduceIte, Nat.reduceEqDiff, Nat.reduceAdd, Nat.reduceMul, Nat.reduceLeDiff, Nat.reduceSub, Nat.reduceLT, Int.reduceToNat, Int.reduceLT, Int.reduceLE, reduceCtorEq]
    · rfl
    · rfl
    · intro k p hk; omega
  · obtain ⟨e, M, N⟩ := t
    obtain ⟨q3, q0, qn, qm, qa⟩ := ht
    simp only at q3 q0 qn qm qa
    have c2 : ((L.length : Int) < (L.length : Int)) = False := eq_false (by omega)
    have hall : inLL L = true := by
      unfold inLL
      rw [List.all_eq_true]
      intro l hl
      obtain ⟨j, hj, e⟩ := List.getElem_of_mem hl
      exact qa j l hj (by rw [List.getElem?_eq_getElem hj, e])
    try simp only [r13_0, r13_1, r13_2, r13_4, r13_5, r13_7, r13_8, r13_6, r13_3, r13_9, c13, F13, l13_1, q3, q0, hlen, c2, hall, go_sem, Int.reduceTMod, Int.reduceTDiv, Int.reduceDiv, Int.reduceMod, Int.reduceAdd, Int.reduceSub, Int.reduceMul, Int.reduceNeg, Int.reducePow, Int.reduceEq, ↓reduceIte, Nat.reduceEqDiff, Nat.reduceAdd, Nat.reduceMul, Nat.reduceLeDiff, Nat.reduceSub, Nat.reduceLT, Int.reduceToNat, Int.reduceLT, Int.reduceLE, reduceCtorEq]
    repeat' ((first | refine FK_split (fun h_ => ?_) (fun h_ => ?_) | refine GK_split (fun h_ => ?_) (fun h_ => ?_) | refine ite_both (fun h_ => ?_) (fun h_ => ?_)) <;> (try simp only [decide_eq_true_eq, decide_eq_false_iff_not, Bool.not_true, Bool.not_false, Bool.not_eq_true', Bool.not_eq_false', Bool.not_eq_eq_eq_not, Decidable.not_not] at h_) <;> (try simp only [r13_0, r13_1, r13_2, r13_4, r13_5, r13_7, r13_8, r13_6, r13_3, r13_9, c13, F13, l13_1, q3, q0, hlen, c2, hall, h_, go_sem, Int.reduceTMod, Int.reduceTDiv, Int.reduceDiv, Int.reduceMod, Int.reduceAdd, Int.reduceSub, Int.reduceMul, Int.reduceNeg, Int.reducePow, Int.reduceEq, ↓reduceIte, Nat.reduceEqDiff, Nat.reduceAdd, Nat.reduceMul, Nat.reduceLeDiff, Nat.reduceSub, Nat.reduceLT, Int.reduceToNat, Int.reduceLT, Int.reduceLE, reduceCtorEq]))
  · simp only [go_sem, Int.reduceTMod, Int.reduceTDiv, Int.reduceDiv, Int.reduceMod, Int.reduceAdd, Int.reduceSub, Int.reduceMul, Int.reduceNeg, Int.reducePow, Int.reduceEq, ↓reduceIte, Nat.reduceEqDiff, Nat.reduceAdd, Nat.reduceMul, Nat.reduceLeDiff, Nat.reduceSub, Nat.reduceLT, Int.reduceToNat, Int.reduceLT, Int.reduceLE, reduceCtorEq]
  · simp only [go_sem, Int.reduceTMod, Int.reduceTDiv, Int.reduceDiv, Int.reduceMod, Int.reduceAdd, Int.reduceSub, Int.reduceMul, Int.reduceNeg, Int.reducePow, Int.reduceEq, ↓reduceIte, Nat.reduceEqDiff, Nat.reduceAdd, Nat.reduceMul, Nat.reduceLeDiff, Nat.reduceSub, Nat.reduceLT, Int.reduceToNat, Int.reduceLT, Int.reduceLE, reduceCtorEq]
  · rfl
  · rfl
  · intro j l hj; omega
theorem v_awake08 : callF TA 11 [] (fun _ => none) 0 = some (RB true) := callF_closed (k := 120) (by kernel_rfl)

/- Where an edge crosses a row of samples, walked. Conditions: those that each theorem names. -/
open Go Go.Proofs
set_option linter.unusedSimpArgs false
set_option linter.unusedVariables false

/-- Rounded up. -/
def cdiv (a d : Int) : Int := if a % d = 0 then a / d else a / d + 1
theorem cdiv_gt {a d : Int} (hd : 0 < d) (x : Int) : x < cdiv a d ↔ x * d < a := by
  have e := Int.mul_ediv_add_emod a d
  have r0 := Int.emod_nonneg a (Int.ne_of_gt hd)
  have r1 := Int.emod_lt_of_pos a hd
  unfold cdiv
  generalize a / d = q at *
  generalize a % d = r at *
  have hm : d * q = q * d := Int.mul_comm _ _
  split
  · rename_i hr
    subst hr
    rw [show a = q * d by omega]
    exact ⟨fun h => Int.mul_lt_mul_of_pos_right h hd, fun h => Int.lt_of_mul_lt_mul_right h (Int.le_of_lt hd)⟩
  · rename_i hr
    constructor
    · intro h
      have : x * d ≤ q * d := Int.mul_le_mul_of_nonneg_right (by omega) (Int.le_of_lt hd)
      omega
    · intro h
      rcases Int.lt_or_le x (q + 1) with h1 | h1
      · exact h1
      · have : (q + 1) * d ≤ x * d := Int.mul_le_mul_of_nonneg_right h1 (Int.le_of_lt hd)
        rw [Int.add_mul] at this
        omega
/-- An upward edge's crossing. -/
def upX (p q : Pt) (y by' : Int) : Option XC := if y < p.y ∨ q.y ≤ y then none else some (p.x + cdiv ((y - p.y) * (q.x - p.x)) (q.y - p.y), by')
def edgeX (p q : Pt) (y : Int) : Option XC := if q.y < p.y then upX q p y (-1) else upX p q y 1
theorem edgeX_none {p q : Pt} {y x : Int} (h : edgeX p q y = none) : edgeW p q ⟨x, y⟩ = 0 := by
  unfold edgeX upX at h
  unfold edgeW
  simp only
  split at h <;> split at h <;> try (cases h; done)
  all_goals
    rw [if_neg (by omega), if_neg (by omega)]
theorem edgeX_some {p q : Pt} {y x : Int} {c : XC} (h : edgeX p q y = some c) : edgeW p q ⟨x, y⟩ = if x < c.1 then c.2 else 0 := by
  unfold edgeX upX at h
  unfold edgeW crossP cross
  simp only
  split at h <;> split at h <;> try (cases h; done)
  · rename_i h1 h2
    cases h
    have hd : 0 < p.y - q.y := by omega
    have key := cdiv_gt (a := (y - q.y) * (p.x - q.x)) hd (x - q.x)
    rw [if_neg (by omega)]
    have e1 : (x < q.x + cdiv ((y - q.y) * (p.x - q.x)) (p.y - q.y)) ↔ (x - q.x) * (p.y - q.y) < (y - q.y) * (p.x - q.x) := by rw [← key]; omega
    have e2 : (q.x - p.x) * (y - p.y) - (q.y - p.y) * (x - p.x) = (x - q.x) * (p.y - q.y) - (y - q.y) * (p.x - q.x) := by grind
    simp only [e1, e2]
    by_cases c : (x - q.x) * (p.y - q.y) < (y - q.y) * (p.x - q.x)
    · rw [if_pos c, if_pos (by omega)]
    · rw [if_neg c, if_neg (by omega)]
  · rename_i h1 h2
    cases h
    have hd : 0 < q.y - p.y := by omega
    have key := cdiv_gt (a := (y - p.y) * (q.x - p.x)) hd (x - p.x)
    have e1 : (x < p.x + cdiv ((y - p.y) * (q.x - p.x)) (q.y - p.y)) ↔ (x - p.x) * (q.y - p.y) < (y - p.y) * (q.x - p.x) := by rw [← key]; omega
    have e2 : (q.x - p.x) * (y - p.y) - (q.y - p.y) * (x - p.x) = (y - p.y) * (q.x - p.x) - (x - p.x) * (q.y - p.y) := by grind
    simp only [e1, e2]
    by_cases c : (x - p.x) * (q.y - p.y) < (y - p.y) * (q.x - p.x)
    · rw [if_pos c, if_pos (by omega)]
    · rw [if_neg c, if_neg (by omega), if_neg (by omega)]
theorem edgeX_by {p q : Pt} {y : Int} {c : XC} (h : edgeX p q y = some c) : -1 ≤ c.2 ∧ c.2 ≤ 1 := by
  unfold edgeX upX at h
  split at h <;> split at h <;> cases h <;> simp
/-- A division's product is in range. -/
theorem prod_rng {a b d : Int} (ha : 0 ≤ a) (had : a < d) (hb : -8589934592 ≤ b ∧ b ≤ 8589934592) : -(4611686018427387904 * d) ≤ a * b ∧ a * b ≤ 4611686018427387904 * d := by
  have h1 : a * b ≤ a * 8589934592 := Int.mul_le_mul_of_nonneg_left hb.2 ha
  have h2 : a * (-8589934592) ≤ a * b := Int.mul_le_mul_of_nonneg_left hb.1 ha
  omega
theorem cdiv_rng {a b d : Int} (ha : 0 ≤ a) (had : a < d) (hb : -8589934592 ≤ b ∧ b ≤ 8589934592) : -8589934592 ≤ a * b / d ∧ a * b / d ≤ 8589934592 := by
  have hd : 0 < d := by omega
  have h1 : a * b ≤ a * 8589934592 := Int.mul_le_mul_of_nonneg_left hb.2 ha
  have h2 : a * (-8589934592) ≤ a * b := Int.mul_le_mul_of_nonneg_left hb.1 ha
  constructor
  · exact (Int.le_ediv_iff_mul_le hd).2 (by omega)
  · have : a * b / d < 8589934593 := Int.ediv_lt_of_lt_mul hd (by omega)
    omega
def regX : Option XC → Reg
  | none => .tup [.agg [I 0, I 0], RB false]
  | some c => .tup [.agg [I c.1, I c.2], RB true]
theorem v_edge (p q : Pt) (y : Int) (hp : inP p = true) (hq : inP q = true) (hy : rm y = true) (m : Mem) (n : Nat) :
    callF TA 42 [.agg [I p.x, I p.y], .agg [I q.x, I q.y], RI y] m n = some (regX (edgeX p q y)) := by
  refine callF_of (Fn_ofK (fn := F42) rfl (by simp [F42]) ?_)
  simp only [inP, Bool.and_eq_true, rm_iff] at hp hq hy
  by_cases c : q.y < p.y
  · by_cases c1 : y < q.y
    · have e : edgeX p q y = none := by unfold edgeX upX; rw [if_pos c, if_pos (Or.inl c1)]
      rw [e]
      try simp only [r42_0, r42_1, r42_2, r42_3, r42_4, r42_5, r42_6, r42_7, r42_8, r42_9, c42, F42, c, c1, regX, go_sem, Int.reduceTMod, Int.reduceTDiv, Int.reduceDiv, Int.reduceMod, Int.reduceAdd, Int.reduceSub, Int.reduceMul, Int.reduceNeg, Int.reducePow, Int.reduceEq, ↓reduceIte, Nat.reduceEqDiff, Nat.reduceAdd, Nat.reduceMul, Nat.reduceLeDiff, Nat.reduceSub, Nat.reduceLT, Int.reduceToNat, Int.reduceLT, Int.reduceLE, reduceCtorEq]
      repeat' ((first | refine FK_split (fun h_ => ?_) (fun h_ => ?_) | refine GK_split (fun h_ => ?_) (fun h_ => ?_) | refine ite_both (fun h_ => ?_) (fun h_ => ?_)) <;> (try simp only [decide_eq_true_eq, decide_eq_false_iff_not, Bool.not_true, Bool.not_false, Bool.not_eq_true', Bool.not_eq_false', Bool.not_eq_eq_eq_not, Decidable.not_not] at h_) <;> (try simp only [r42_0, r42_1, r42_2, r42_3, r42_4, r42_5, r42_6, r42_7, r42_8, r42_9, c42, F42, c, c1, regX, h_, go_sem, Int.reduceTMod, Int.reduceTDiv, Int.reduceDiv, Int.reduceMod, Int.reduceAdd, Int.reduceSub, Int.reduceMul, Int.reduceNeg, Int.reducePow, Int.reduceEq, ↓reduceIte, Nat.reduceEqDiff, Nat.reduceAdd, Nat.reduceMul, Nat.reduceLeDiff, Nat.reduceSub, Nat.reduceLT, Int.reduceToNat, Int.reduceLT, Int.reduceLE, reduceCtorEq]))
    · by_cases c2 : p.y ≤ y
      · have e : edgeX p q y = none := by unfold edgeX upX; rw [if_pos c, if_pos (Or.inr c2)]
        rw [e]
        try simp only [r42_0, r42_1, r42_2, r42_3, r42_4, r42_5, r42_6, r42_7, r42_8, r42_9, c42, F42, c, c1, c2, regX, go_sem, Int.reduceTMod, Int.reduceTDiv, Int.reduceDiv, Int.reduceMod, Int.reduceAdd, Int.reduceSub, Int.reduceMul, Int.reduceNeg, Int.reducePow, Int.reduceEq, ↓reduceIte, Nat.reduceEqDiff, Nat.reduceAdd, Nat.reduceMul, Nat.reduceLeDiff, Nat.reduceSub, Nat.reduceLT, Int.reduceToNat, Int.reduceLT, Int.reduceLE, reduceCtorEq]
        repeat' ((first | refine FK_split (fun h_ => ?_) (fun h_ => ?_) | refine GK_split (fun h_ => ?_) (fun h_ => ?_) | refine ite_both (fun h_ => ?_) (fun h_ => ?_)) <;> (try simp only [decide_eq_true_eq, decide_eq_false_iff_not, Bool.not_true, Bool.not_false, Bool.not_eq_true', Bool.not_eq_false', Bool.not_eq_eq_eq_not, Decidable.not_not] at h_) <;> (try simp only [r42_0, r42_1, r42_2, r42_3, r42_4, r42_5, r42_6, r42_7, r42_8, r42_9, c42, F42, c, c1, c2, regX, h_, go_sem, Int.reduceTMod, Int.reduceTDiv, Int.reduceDiv, Int.reduceMod, Int.reduceAdd, Int.reduceSub, Int.reduceMul, Int.reduceNeg, Int.reducePow, Int.reduceEq, ↓reduceIte, Nat.reduceEqDiff, Nat.reduceAdd, Nat.reduceMul, Nat.reduceLeDiff, Nat.reduceSub, Nat.reduceLT, Int.reduceToNat, Int.reduceLT, Int.reduceLE, reduceCtorEq]))
      · have e : edgeX p q y = some (q.x + cdiv ((y - q.y) * (p.x - q.x)) (p.y - q.y), -1) := by unfold edgeX upX; rw [if_pos c, if_neg (by omega)]
        rw [e]
        have pr := prod_rng (a := y - q.y) (b := p.x - q.x) (d := p.y - q.y) (by omega) (by omega) (by omega)
        have cr := cdiv_rng (a := y - q.y) (b := p.x - q.x) (d := p.y - q.y) (by omega) (by omega) (by omega)
        obtain ⟨ex, hv, hx⟩ := v_MulDivE (y - q.y) (p.x - q.x) (p.y - q.y) (by omega) (by omega) (by omega) (by omega) pr.1 pr.2 (fun _ => none) 0
        unfold cdiv
        have w1 : IntKind.i64.wrap (y - q.y) = y - q.y := wr_eq (by omega) (by omega)
        have w2 : IntKind.i64.wrap (p.x - q.x) = p.x - q.x := wr_eq (by omega) (by omega)
        have w3 : IntKind.i64.wrap (p.y - q.y) = p.y - q.y := wr_eq (by omega) (by omega)
        generalize (y - q.y) * (p.x - q.x) / (p.y - q.y) = v at *
        have w4 : IntKind.i64.wrap (v + 1) = v + 1 := wr_eq (by omega) (by omega)
        have w5 : IntKind.i64.wrap (q.x + (v + 1)) = q.x + (v + 1) := wr_eq (by omega) (by omega)
        have w6 : IntKind.i64.wrap (q.x + v) = q.x + v := wr_eq (by omega) (by omega)
        cases ex with
        | true =>
          rw [if_pos (hx.1 rfl)]
          try simp only [r42_0, r42_1, r42_2, r42_3, r42_4, r42_5, r42_6, r42_7, r42_8, r42_9, c42, F42, c, c1, c2, w1, w2, w3, hv, w6, regX, go_sem, Int.reduceTMod, Int.reduceTDiv, Int.reduceDiv, Int.reduceMod, Int.reduceAdd, Int.reduceSub, Int.reduceMul, Int.reduceNeg, Int.reducePow, Int.reduceEq, ↓reduceIte, Nat.reduceEqDiff, Nat.reduceAdd, Nat.reduceMul, Nat.reduceLeDiff, Nat.reduceSub, Nat.reduceLT, Int.reduceToNat, Int.reduceLT, Int.reduceLE, reduceCtorEq]
          repeat' ((first | refine FK_split (fun h_ => ?_) (fun h_ => ?_) | refine GK_split (fun h_ => ?_) (fun h_ => ?_) | refine ite_both (fun h_ => ?_) (fun h_ => ?_)) <;> (try simp only [decide_eq_true_eq, decide_eq_false_iff_not, Bool.not_true, Bool.not_false, Bool.not_eq_true', Bool.not_eq_false', Bool.not_eq_eq_eq_not, Decidable.not_not] at h_) <;> (try simp only [r42_0, r42_1, r42_2, r42_3, r42_4, r42_5, r42_6, r42_7, r42_8, r42_9, c42, F42, c, c1, c2, w1, w2, w3, hv, w6, regX, h_, go_sem, Int.reduceTMod, Int.reduceTDiv, Int.reduceDiv, Int.reduceMod, Int.reduceAdd, Int.reduceSub, Int.reduceMul, Int.reduceNeg, Int.reducePow, Int.reduceEq, ↓reduceIte, Nat.reduceEqDiff, Nat.reduceAdd, Nat.reduceMul, Nat.reduceLeDiff, Nat.reduceSub, Nat.reduceLT, Int.reduceToNat, Int.reduceLT, Int.reduceLE, reduceCtorEq]))
        | false =>
          rw [if_neg (fun h => by have := hx.2 h; cases this)]
          try simp only [r42_0, r42_1, r42_2, r42_3, r42_4, r42_5, r42_6, r42_7, r42_8, r42_9, c42, F42, c, c1, c2, w1, w2, w3, hv, w4, w5, regX, go_sem, Int.reduceTMod, Int.reduceTDiv, Int.reduceDiv, Int.reduceMod, Int.reduceAdd, Int.reduceSub, Int.reduceMul, Int.reduceNeg, Int.reducePow, Int.reduceEq, ↓reduceIte, Nat.reduceEqDiff, Nat.reduceAdd, Nat.reduceMul, Nat.reduceLeDiff, Nat.reduceSub, Nat.reduceLT, Int.reduceToNat, Int.reduceLT, Int.reduceLE, reduceCtorEq]
          repeat' ((first | refine FK_split (fun h_ => ?_) (fun h_ => ?_) | refine GK_split (fun h_ => ?_) (fun h_ => ?_) | refine ite_both (fun h_ => ?_) (fun h_ => ?_)) <;> (try simp only [decide_eq_true_eq, decide_eq_false_iff_not, Bool.not_true, Bool.not_false, Bool.not_eq_true', Bool.not_eq_false', Bool.not_eq_eq_eq_not, Decidable.not_not] at h_) <;> (try simp only [r42_0, r42_1, r42_2, r42_3, r42_4, r42_5, r42_6, r42_7, r42_8, r42_9, c42, F42, c, c1, c2, w1, w2, w3, hv, w4, w5, regX, h_, go_sem, Int.reduceTMod, Int.reduceTDiv, Int.reduceDiv, Int.reduceMod, Int.reduceAdd, Int.reduceSub, Int.reduceMul, Int.reduceNeg, Int.reducePow, Int.reduceEq, ↓reduceIte, Nat.reduceEqDiff, Nat.reduceAdd, Nat.reduceMul, Nat.reduceLeDiff, Nat.reduceSub, Nat.reduceLT, Int.reduceToNat, Int.reduceLT, Int.reduceLE, reduceCtorEq]))
  · by_cases c1 : y < p.y
    · have e : edgeX p q y = none := by unfold edgeX upX; rw [if_neg c, if_pos (Or.inl c1)]
      rw [e]
      try simp only [r42_0, r42_1, r42_2, r42_3, r42_4, r42_5, r42_6, r42_7, r42_8, r42_9, c42, F42, c, c1, regX, go_sem, Int.reduceTMod, Int.reduceTDiv, Int.reduceDiv, Int.reduceMod, Int.reduceAdd, Int.reduceSub, Int.reduceMul, Int.reduceNeg, Int.reducePow, Int.reduceEq, ↓reduceIte, Nat.reduceEqDiff, Nat.reduceAdd, Nat.reduceMul, Nat.reduceLeDiff, Nat.reduceSub, Nat.reduceLT, Int.reduceToNat, Int.reduceLT, Int.reduceLE, reduceCtorEq]
      repeat' ((first | refine FK_split (fun h_ => ?_) (fun h_ => ?_) | refine GK_split (fun h_ => ?_) (fun h_ => ?_) | refine ite_both (fun h_ => ?_) (fun h_ => ?_)) <;> (try simp only [decide_eq_true_eq, decide_eq_false_iff_not, Bool.not_true, Bool.not_false, Bool.not_eq_true', Bool.not_eq_false', Bool.not_eq_eq_eq_not, Decidable.not_not] at h_) <;> (try simp only [r42_0, r42_1, r42_2, r42_3, r42_4, r42_5, r42_6, r42_7, r42_8, r42_9, c42, F42, c, c1, regX, h_, go_sem, Int.reduceTMod, Int.reduceTDiv, Int.reduceDiv, Int.reduceMod, Int.reduceAdd, Int.reduceSub, Int.reduceMul, Int.reduceNeg, Int.reducePow, Int.reduceEq, ↓reduceIte, Nat.reduceEqDiff, Nat.reduceAdd, Nat.reduceMul, Nat.reduceLeDiff, Nat.reduceSub, Nat.reduceLT, Int.reduceToNat, Int.reduceLT, Int.reduceLE, reduceCtorEq]))
    · by_cases c2 : q.y ≤ y
      · have e : edgeX p q y = none := by unfold edgeX upX; rw [if_neg c, if_pos (Or.inr c2)]
        rw [e]
        try simp only [r42_0, r42_1, r42_2, r42_3, r42_4, r42_5, r42_6, r42_7, r42_8, r42_9, c42, F42, c, c1, c2, regX, go_sem, Int.reduceTMod, Int.reduceTDiv, Int.reduceDiv, Int.reduceMod, Int.reduceAdd, Int.reduceSub, Int.reduceMul, Int.reduceNeg, Int.reducePow, Int.reduceEq, ↓reduceIte, Nat.reduceEqDiff, Nat.reduceAdd, Nat.reduceMul, Nat.reduceLeDiff, Nat.reduceSub, Nat.reduceLT, Int.reduceToNat, Int.reduceLT, Int.reduceLE, reduceCtorEq]
        repeat' ((first | refine FK_split (fun h_ => ?_) (fun h_ => ?_) | refine GK_split (fun h_ => ?_) (fun h_ => ?_) | refine ite_both (fun h_ => ?_) (fun h_ => ?_)) <;> (try simp only [decide_eq_true_eq, decide_eq_false_iff_not, Bool.not_true, Bool.not_false, Bool.not_eq_true', Bool.not_eq_false', Bool.not_eq_eq_eq_not, Decidable.not_not] at h_) <;> (try simp only [r42_0, r42_1, r42_2, r42_3, r42_4, r42_5, r42_6, r42_7, r42_8, r42_9, c42, F42, c, c1, c2, regX, h_, go_sem, Int.reduceTMod, Int.reduceTDiv, Int.reduceDiv, Int.reduceMod, Int.reduceAdd, Int.reduceSub, Int.reduceMul, Int.reduceNeg, Int.reducePow, Int.reduceEq, ↓reduceIte, Nat.reduceEqDiff, Nat.reduceAdd, Nat.reduceMul, Nat.reduceLeDiff, Nat.reduceSub, Nat.reduceLT, Int.reduceToNat, Int.reduceLT, Int.reduceLE, reduceCtorEq]))
      · have e : edgeX p q y = some (p.x + cdiv ((y - p.y) * (q.x - p.x)) (q.y - p.y), 1) := by unfold edgeX upX; rw [if_neg c, if_neg (by omega)]
        rw [e]
        have pr := prod_rng (a := y - p.y) (b := q.x - p.x) (d := q.y - p.y) (by omega) (by omega) (by omega)
        have cr := cdiv_rng (a := y - p.y) (b := q.x - p.x) (d := q.y - p.y) (by omega) (by omega) (by omega)
        obtain ⟨ex, hv, hx⟩ := v_MulDivE (y - p.y) (q.x - p.x) (q.y - p.y) (by omega) (by omega) (by omega) (by omega) pr.1 pr.2 (fun _ => none) 0
        unfold cdiv
        have w1 : IntKind.i64.wrap (y - p.y) = y - p.y := wr_eq (by omega) (by omega)
        have w2 : IntKind.i64.wrap (q.x - p.x) = q.x - p.x := wr_eq (by omega) (by omega)
        have w3 : IntKind.i64.wrap (q.y - p.y) = q.y - p.y := wr_eq (by omega) (by omega)
        generalize (y - p.y) * (q.x - p.x) / (q.y - p.y) = v at *
        have w4 : IntKind.i64.wrap (v + 1) = v + 1 := wr_eq (by omega) (by omega)
        have w5 : IntKind.i64.wrap (p.x + (v + 1)) = p.x + (v + 1) := wr_eq (by omega) (by omega)
        have w6 : IntKind.i64.wrap (p.x + v) = p.x + v := wr_eq (by omega) (by omega)
        cases ex with
        | true =>
          rw [if_pos (hx.1 rfl)]
          try simp only [r42_0, r42_1, r42_2, r42_3, r42_4, r42_5, r42_6, r42_7, r42_8, r42_9, c42, F42, c, c1, c2, w1, w2, w3, hv, w6, regX, go_sem, Int.reduceTMod, Int.reduceTDiv, Int.reduceDiv, Int.reduceMod, Int.reduceAdd, Int.reduceSub, Int.reduceMul, Int.reduceNeg, Int.reducePow, Int.reduceEq, ↓reduceIte, Nat.reduceEqDiff, Nat.reduceAdd, Nat.reduceMul, Nat.reduceLeDiff, Nat.reduceSub, Nat.reduceLT, Int.reduceToNat, Int.reduceLT, Int.reduceLE, reduceCtorEq]
          repeat' ((first | refine FK_split (fun h_ => ?_) (fun h_ => ?_) | refine GK_split (fun h_ => ?_) (fun h_ => ?_) | refine ite_both (fun h_ => ?_) (fun h_ => ?_)) <;> (try simp only [decide_eq_true_eq, decide_eq_false_iff_not, Bool.not_true, Bool.not_false, Bool.not_eq_true', Bool.not_eq_false', Bool.not_eq_eq_eq_not, Decidable.not_not] at h_) <;> (try simp only [r42_0, r42_1, r42_2, r42_3, r42_4, r42_5, r42_6, r42_7, r42_8, r42_9, c42, F42, c, c1, c2, w1, w2, w3, hv, w6, regX, h_, go_sem, Int.reduceTMod, Int.reduceTDiv, Int.reduceDiv, Int.reduceMod, Int.reduceAdd, Int.reduceSub, Int.reduceMul, Int.reduceNeg, Int.reducePow, Int.reduceEq, ↓reduceIte, Nat.reduceEqDiff, Nat.reduceAdd, Nat.reduceMul, Nat.reduceLeDiff, Nat.reduceSub, Nat.reduceLT, Int.reduceToNat, Int.reduceLT, Int.reduceLE, reduceCtorEq]))
        | false =>
          rw [if_neg (fun h => by have := hx.2 h; cases this)]
          try simp only [r42_0, r42_1, r42_2, r42_3, r42_4, r42_5, r42_6, r42_7, r42_8, r42_9, c42, F42, c, c1, c2, w1, w2, w3, hv, w4, w5, regX, go_sem, Int.reduceTMod, Int.reduceTDiv, Int.reduceDiv, Int.reduceMod, Int.reduceAdd, Int.reduceSub, Int.reduceMul, Int.reduceNeg, Int.reducePow, Int.reduceEq, ↓reduceIte, Nat.reduceEqDiff, Nat.reduceAdd, Nat.reduceMul, Nat.reduceLeDiff, Nat.reduceSub, Nat.reduceLT, Int.reduceToNat, Int.reduceLT, Int.reduceLE, reduceCtorEq]
          repeat' ((first | refine FK_split (fun h_ => ?_) (fun h_ => ?_) | refine GK_split (fun h_ => ?_) (fun h_ => ?_) | refine ite_both (fun h_ => ?_) (fun h_ => ?_)) <;> (try simp only [decide_eq_true_eq, decide_eq_false_iff_not, Bool.not_true, Bool.not_false, Bool.not_eq_true', Bool.not_eq_false', Bool.not_eq_eq_eq_not, Decidable.not_not] at h_) <;> (try simp only [r42_0, r42_1, r42_2, r42_3, r42_4, r42_5, r42_6, r42_7, r42_8, r42_9, c42, F42, c, c1, c2, w1, w2, w3, hv, w4, w5, regX, h_, go_sem, Int.reduceTMod, Int.reduceTDiv, Int.reduceDiv, Int.reduceMod, Int.reduceAdd, Int.reduceSub, Int.reduceMul, Int.reduceNeg, Int.reducePow, Int.reduceEq, ↓reduceIte, Nat.reduceEqDiff, Nat.reduceAdd, Nat.reduceMul, Nat.reduceLeDiff, Nat.reduceSub, Nat.reduceLT, Int.reduceToNat, Int.reduceLT, Int.reduceLE, reduceCtorEq]))

/- Where polygons cross a row of samples, walked. Conditions: those that each theorem names. -/
open Go Go.Proofs
set_option linter.unusedSimpArgs false
set_option linter.unusedVariables false

/-- The crossings of the edges into the places below i. -/
def xTo (l : List Pt) (y : Int) : Nat → List XC
  | 0 => []
  | i + 1 => xTo l y i ++ (match l[(i + l.length - 1) % l.length]?, l[i]? with | some p, some q => (edgeX p q y).toList | _, _ => [])
def xAll (L : List (List Pt)) (y : Int) : Nat → List XC
  | 0 => []
  | i + 1 => xAll L y i ++ (match L[i]? with | some l => xTo l y l.length | none => [])
theorem xTo_len (l : List Pt) (y : Int) : ∀ i : Nat, (xTo l y i).length ≤ i
  | 0 => by simp [xTo]
  | i + 1 => by
    have h := xTo_len l y i
    rw [xTo, List.length_append]
    split
    · rename_i p q _ _
      have : (edgeX p q y).toList.length ≤ 1 := by cases edgeX p q y <;> simp
      omega
    · simp only [List.length_nil]; omega
theorem xAll_len (L : List (List Pt)) (y : Int) (hL : ∀ l ∈ L, l.length ≤ 20) : ∀ i : Nat, (xAll L y i).length ≤ 20 * i
  | 0 => by simp [xAll]
  | i + 1 => by
    have h := xAll_len L y hL i
    rw [xAll, List.length_append]
    split
    · rename_i l hl
      have h1 := hL l (List.mem_of_getElem? hl)
      have h2 := xTo_len l y l.length
      omega
    · simp only [List.length_nil]; omega
theorem ce2 (x : XC) : (encX x).length = 2 := rfl
theorem w_sort (r : Reg) (l : List XC) (base : Nat) (m : Mem) (n : Nat) (hr : OL encX 2 base m n r l) (hl : l.length ≤ 4294967296) :
    Fn TA 43 [r, .one (.clo 44 [])] m n (fun r' m' n' => n' = n ∧ OL encX 2 base m' n r (sortX l) ∧ ∀ id, sid r ≠ some id → m' id = m id) := by
  rcases hr with ⟨rfl, rfl⟩ | ⟨id, rfl, h1, h2, h3⟩
  · exact Fn_nat (fn := F43) rfl rfl (sortNat_nil _ m n) ⟨rfl, Or.inl ⟨rfl, by rw [← List.length_eq_zero_iff, sortX_len]; rfl⟩, fun _ _ => rfl⟩
  · refine Fn_nat (fn := F43) rfl rfl (sortNat_row _ id l m n hl h3) ⟨rfl, Or.inr ⟨id, by rw [sortX_len], h1, h2, by simp only; rw [upd_same]⟩, fun i hi => upd_ne _ _ (fun e => hi (by rw [e]; rfl))⟩
theorem w_row (r : Reg) (L : List (List Pt)) (y : Int) (m : Mem) (n : Nat) (hr : RPP m n r L) (hn60 : L.length ≤ 60) (hL : ∀ l ∈ L, l.length ≤ 20) (hi : ∀ l ∈ L, l.all inP = true) (hy : rm y = true) :
    Fn TA 31 [r, RI y] m n (fun r' m' n' => n ≤ n' ∧ OL encX 2 n m' n' r' (sortX (xAll L y L.length)) ∧ ∀ id, id < n → m' id = m id) := by
  refine Fn_ofK (fn := F31) rfl (by simp [F31]) ?_
  have hlen := hr.len
  try simp only [r31_0, r31_1, r31_2, r31_3, r31_4, r31_5, r31_6, r31_7, r31_8, r31_9, r31_10, r31_11, r31_12, r31_13, r31_14, r31_15, r31_16, r31_17, c31, F31, hlen, go_sem, Int.reduceTMod, Int.reduceTDiv, Int.reduceDiv, Int.reduceMod, Int.reduceAdd, Int.reduceSub, Int.reduceMul, Int.reduceNeg, Int.reducePow, Int.reduceEq, ↓reduceIte, Nat.reduceEqDiff, Nat.reduceAdd, Nat.reduceMul, Nat.reduceLeDiff, Nat.reduceSub, Nat.reduceLT, Int.reduceToNat, Int.reduceLT, Int.reduceLE, reduceCtorEq]
  repeat' ((first | refine FK_split (fun h_ => ?_) (fun h_ => ?_) | refine GK_split (fun h_ => ?_) (fun h_ => ?_) | refine ite_both (fun h_ => ?_) (fun h_ => ?_)) <;> (try simp only [decide_eq_true_eq, decide_eq_false_iff_not, Bool.not_true, Bool.not_false, Bool.not_eq_true', Bool.not_eq_false', Bool.not_eq_eq_eq_not, Decidable.not_not] at h_) <;> (try simp only [r31_0, r31_1, r31_2, r31_3, r31_4, r31_5, r31_6, r31_7, r31_8, r31_9, r31_10, r31_11, r31_12, r31_13, r31_14, r31_15, r31_16, r31_17, c31, F31, hlen, h_, go_sem, Int.reduceTMod, Int.reduceTDiv, Int.reduceDiv, Int.reduceMod, Int.reduceAdd, Int.reduceSub, Int.reduceMul, Int.reduceNeg, Int.reducePow, Int.reduceEq, ↓reduceIte, Nat.reduceEqDiff, Nat.reduceAdd, Nat.reduceMul, Nat.reduceLeDiff, Nat.reduceSub, Nat.reduceLT, Int.reduceToNat, Int.reduceLT, Int.reduceLE, reduceCtorEq]))
  refine XK_iter (inv := fun i s => s.e 15 = RI i ∧ s.e 14 = RI L.length ∧ s.e 13 = r ∧ s.e 1 = RI y ∧ n ≤ s.n ∧ (∀ id, id < n → s.m id = m id) ∧ OL encX 2 n s.m s.n (s.e 5) (xAll L y i)) L.length
    (fun K _ => ⟨fun i hi' s hs next => ?_, fun s hs => ?_⟩) 0 (by omega) _ ⟨?_, ?_, ?_, ?_, ?_, ?_, ?_⟩
  · obtain ⟨e, M, N⟩ := s
    obtain ⟨q15, q14, q13, q1, qn, qm, qo⟩ := hs
    simp only at q15 q14 q13 q1 qn qm qo
    have hp : L[i]? = some L[i] := List.getElem?_eq_getElem hi'
    obtain ⟨id, off, cap, b, c0, hr1, hid, hb0, hbc, hc⟩ := hr.at hp
    have hb : M id = some b := by rw [qm id hid]; exact hb0
    have hl20 := hL _ (List.getElem_mem hi')
    have hin := hi _ (List.getElem_mem hi')
    have hxs : xAll L y (i + 1) = xAll L y i ++ xTo L[i] y L[i].length := by rw [xAll, hp]
    have hxl := xAll_len L y hL i
    generalize L[i] = l at *
    generalize xAll L y (i + 1) = A1 at *
    generalize xAll L y i = A0 at *
    have c2 : ((i : Int) < (L.length : Int)) = True := eq_true (by omega)
    have c3 : (0 ≤ (i : Int)) = True := eq_true (by omega)
    have c7 : IntKind.i64.wrap ((i : Int) + 1) = ((i + 1 : Nat) : Int) := wr_nat (by omega)
    have q13' := q13
    rw [hr1] at q13'
    have hlc := hc.len
    try simp only [r31_0, r31_1, r31_2, r31_3, r31_4, r31_5, r31_6, r31_7, r31_8, r31_9, r31_10, r31_11, r31_12, r31_13, r31_14, r31_15, r31_16, r31_17, c31, F31, l31_1, q15, q14, q13', c2, c3, hb, hbc, hlc, Int.toNat_natCast, Nat.mul_one, go_sem, Int.reduceTMod, Int.reduceTDiv, Int.reduceDiv, Int.reduceMod, Int.reduceAdd, Int.reduceSub, Int.reduceMul, Int.reduceNeg, Int.reducePow, Int.reduceEq, ↓reduceIte, Nat.reduceEqDiff, Nat.reduceAdd, Nat.reduceMul, Nat.reduceLeDiff, Nat.reduceSub, Nat.reduceLT, Int.reduceToNat, Int.reduceLT, Int.reduceLE, reduceCtorEq]
    repeat' ((first | refine FK_split (fun h_ => ?_) (fun h_ => ?_) | refine GK_split (fun h_ => ?_) (fun h_ => ?_) | refine ite_both (fun h_ => ?_) (fun h_ => ?_)) <;> (try simp only [decide_eq_true_eq, decide_eq_false_iff_not, Bool.not_true, Bool.not_false, Bool.not_eq_true', Bool.not_eq_false', Bool.not_eq_eq_eq_not, Decidable.not_not] at h_) <;> (try simp only [r31_0, r31_1, r31_2, r31_3, r31_4, r31_5, r31_6, r31_7, r31_8, r31_9, r31_10, r31_11, r31_12, r31_13, r31_14, r31_15, r31_16, r31_17, c31, F31, l31_1, q15, q14, q13', c2, c3, hb, hbc, hlc, Int.toNat_natCast, Nat.mul_one, h_, go_sem, Int.reduceTMod, Int.reduceTDiv, Int.reduceDiv, Int.reduceMod, Int.reduceAdd, Int.reduceSub, Int.reduceMul, Int.reduceNeg, Int.reducePow, Int.reduceEq, ↓reduceIte, Nat.reduceEqDiff, Nat.reduceAdd, Nat.reduceMul, Nat.reduceLeDiff, Nat.reduceSub, Nat.reduceLT, Int.reduceToNat, Int.reduceLT, Int.reduceLE, reduceCtorEq]))
    refine XK_iter (inv := fun j s => s.e 21 = RI j ∧ s.e 20 = RI l.length ∧ s.e 19 = .one c0 ∧ s.e 7 = .one c0 ∧ s.e 15 = RI i ∧ s.e 14 = RI L.length ∧ s.e 13 = r ∧ s.e 1 = RI y ∧ N ≤ s.n ∧ (∀ id, id < n → s.m id = m id) ∧ OL encX 2 n s.m s.n (s.e 5) (A0 ++ xTo l y j)) l.length
      (fun K2 _ => ⟨fun j hj s hs next2 => ?_, fun s hs => ?_⟩) 0 (by omega) _ ⟨?_, ?_, ?_, ?_, ?_, ?_, ?_, ?_, ?_, ?_, ?_⟩
    · obtain ⟨e4, M4, N4⟩ := s
      obtain ⟨t21, t20, t19, t7, t15, t14, t13, t1, tn, tm, tO⟩ := hs
      simp only at t21 t20 t19 t7 t15 t14 t13 t1 tn tm tO
      have hcR : RPt m n (.one c0) l := hc.resolve_right (fun h => by obtain ⟨a, _, h2⟩ := h; rw [h2] at hj; simp at hj)
      have hcM : RPt M4 N4 (.one c0) l := hcR.keep (by omega) tm
      have hj' : (j + l.length - 1) % l.length < l.length := Nat.mod_lt _ (by omega)
      have hpj : l[j]? = some l[j] := List.getElem?_eq_getElem hj
      have hpl : l[l.length - 1]? = some (l[l.length - 1]'(by omega)) := List.getElem?_eq_getElem (by omega)
      have hpd : l[(j + l.length - 1) % l.length]? = some (l[(j + l.length - 1) % l.length]'hj') := List.getElem?_eq_getElem hj'
      obtain ⟨id2, off2, cap2, e2, hid2, hrd⟩ := hcM.at cs2 hpj
      obtain ⟨id3, off3, cap3, e3, hid3, hrdl⟩ := hcM.at cs2 hpl
      obtain ⟨id4, off4, cap4, e5, hid4, hrdd⟩ := hcM.at cs2 hpd
      rw [e2] at e3 e5
      simp only [Reg.one.injEq, Cell.sl.injEq, true_and] at e3 e5
      obtain ⟨rfl, rfl, rfl, _⟩ := e3
      obtain ⟨rfl, rfl, rfl, _⟩ := e5
      have iq : inP l[j] = true := List.all_eq_true.1 hin _ (List.getElem_mem hj)
      have ip : inP (l[(j + l.length - 1) % l.length]'hj') = true := List.all_eq_true.1 hin _ (List.getElem_mem hj')
      have vE := v_edge (l[(j + l.length - 1) % l.length]'hj') l[j] y ip iq hy
      have hxt : xTo l y (j + 1) = xTo l y j ++ (edgeX (l[(j + l.length - 1) % l.length]'hj') l[j] y).toList := by rw [xTo, hpd, hpj]
      have hxtl := xTo_len l y j
      generalize xTo l y (j + 1) = B1 at *
      generalize xTo l y j = B0 at *
      have g1 : ((j : Int) < (l.length : Int)) = True := eq_true (by omega)
      have g2 : (0 ≤ (j : Int)) = True := eq_true (by omega)
      have g5 : IntKind.i64.wrap ((j : Int) + 1) = ((j + 1 : Nat) : Int) := wr_nat (by omega)
      have d1 : IntKind.i64.wrap ((l.length : Int) - 1) = ((l.length - 1 : Nat) : Int) := (wr_eq (by omega) (by omega)).trans (by omega)
      have d2 : (((l.length - 1 : Nat) : Int) < (l.length : Int)) = True := eq_true (by omega)
      have d3 : (0 ≤ ((l.length - 1 : Nat) : Int)) = True := eq_true (by omega)
      have t19' := t19
      have t7' := t7
      rw [e2] at t19' t7'
      have n2 := na_0 hid2
      have n3 : ∀ k, (id2 = N4 + k) = False := fun k => na_ne hid2
      by_cases hj0 : j = 0
      · have hJ : (j + l.length - 1) % l.length = l.length - 1 := by rw [hj0, Nat.zero_add]; exact Nat.mod_eq_of_lt (by omega)
        have hJl : (l[l.length - 1]'(by omega)) = (l[(j + l.length - 1) % l.length]'hj') := by congr 1; exact hJ.symm
        rw [hJl] at hrdl
        have c4 : ((0 : Int) < (j : Int)) = False := eq_false (by omega)
        generalize (l[(j + l.length - 1) % l.length]'hj') = P at *
        generalize l[j] = q at *
        cases he : edgeX P q y with
        | none =>
          rw [he] at vE hxt
          try simp only [r31_0, r31_1, r31_2, r31_3, r31_4, r31_5, r31_6, r31_7, r31_8, r31_9, r31_10, r31_11, r31_12, r31_13, r31_14, r31_15, r31_16, r31_17, c31, F31, l31_0, t21, t20, t19', t7', t1, g1, g2, g5, c4, d1, d2, d3, hrd, hrdl, hrdd, n2, n3, vE, regX, Int.toNat_natCast, go_sem, Int.reduceTMod, Int.reduceTDiv, Int.reduceDiv, Int.reduceMod, Int.reduceAdd, Int.reduceSub, Int.reduceMul, Int.reduceNeg, Int.reducePow, Int.reduceEq, ↓reduceIte, Nat.reduceEqDiff, Nat.reduceAdd, Nat.reduceMul, Nat.reduceLeDiff, Nat.reduceSub, Nat.reduceLT, Int.reduceToNat, Int.reduceLT, Int.reduceLE, reduceCtorEq]
          repeat' ((first | refine FK_split (fun h_ => ?_) (fun h_ => ?_) | refine GK_split (fun h_ => ?_) (fun h_ => ?_) | refine ite_both (fun h_ => ?_) (fun h_ => ?_)) <;> (try simp only [decide_eq_true_eq, decide_eq_false_iff_not, Bool.not_true, Bool.not_false, Bool.not_eq_true', Bool.not_eq_false', Bool.not_eq_eq_eq_not, Decidable.not_not] at h_) <;> (try simp only [r31_0, r31_1, r31_2, r31_3, r31_4, r31_5, r31_6, r31_7, r31_8, r31_9, r31_10, r31_11, r31_12, r31_13, r31_14, r31_15, r31_16, r31_17, c31, F31, l31_0, t21, t20, t19', t7', t1, g1, g2, g5, c4, d1, d2, d3, hrd, hrdl, hrdd, n2, n3, vE, regX, Int.toNat_natCast, h_, go_sem, Int.reduceTMod, Int.reduceTDiv, Int.reduceDiv, Int.reduceMod, Int.reduceAdd, Int.reduceSub, Int.reduceMul, Int.reduceNeg, Int.reducePow, Int.reduceEq, ↓reduceIte, Nat.reduceEqDiff, Nat.reduceAdd, Nat.reduceMul, Nat.reduceLeDiff, Nat.reduceSub, Nat.reduceLT, Int.reduceToNat, Int.reduceLT, Int.reduceLE, reduceCtorEq]))
          refine next2 _ ⟨?_, ?_, ?_, ?_, ?_, ?_, ?_, ?_, ?_, ?_, ?_⟩
          · simp only [go_sem, Int.reduceTMod, Int.reduceTDiv, Int.reduceDiv, Int.reduceMod, Int.reduceAdd, Int.reduceSub, Int.reduceMul, Int.reduceNeg, Int.reducePow, Int.reduceEq, ↓reduceIte, Nat.reduceEqDiff, Nat.reduceAdd, Nat.reduceMul, Nat.reduceLeDiff, Nat.reduceSub, Nat.reduceLT, Int.reduceToNat, Int.reduceLT, Int.reduceLE, reduceCtorEq]
          · simp only [t20, go_sem, Int.reduceTMod, Int.reduceTDiv, Int.reduceDiv, Int.reduceMod, Int.reduceAdd, Int.reduceSub, Int.reduceMul, Int.reduceNeg, Int.reducePow, Int.reduceEq, ↓reduceIte, Nat.reduceEqDiff, Nat.reduceAdd, Nat.reduceMul, Nat.reduceLeDiff, Nat.reduceSub, Nat.reduceLT, Int.reduceToNat, Int.reduceLT, Int.reduceLE, reduceCtorEq]
          · simp only [t19, go_sem, Int.reduceTMod, Int.reduceTDiv, Int.reduceDiv, Int.reduceMod, Int.reduceAdd, Int.reduceSub, Int.reduceMul, Int.reduceNeg, Int.reducePow, Int.reduceEq, ↓reduceIte, Nat.reduceEqDiff, Nat.reduceAdd, Nat.reduceMul, Nat.reduceLeDiff, Nat.reduceSub, Nat.reduceLT, Int.reduceToNat, Int.reduceLT, Int.reduceLE, reduceCtorEq]
          · simp only [t7, go_sem, Int.reduceTMod, Int.reduceTDiv, Int.reduceDiv, Int.reduceMod, Int.reduceAdd, Int.reduceSub, Int.reduceMul, Int.reduceNeg, Int.reducePow, Int.reduceEq, ↓reduceIte, Nat.reduceEqDiff, Nat.reduceAdd, Nat.reduceMul, Nat.reduceLeDiff, Nat.reduceSub, Nat.reduceLT, Int.reduceToNat, Int.reduceLT, Int.reduceLE, reduceCtorEq]
          · simp only [t15, go_sem, Int.reduceTMod, Int.reduceTDiv, Int.reduceDiv, Int.reduceMod, Int.reduceAdd, Int.reduceSub, Int.reduceMul, Int.reduceNeg, Int.reducePow, Int.reduceEq, ↓reduceIte, Nat.reduceEqDiff, Nat.reduceAdd, Nat.reduceMul, Nat.reduceLeDiff, Nat.reduceSub, Nat.reduceLT, Int.reduceToNat, Int.reduceLT, Int.reduceLE, reduceCtorEq]
          · simp only [t14, go_sem, Int.reduceTMod, Int.reduceTDiv, Int.reduceDiv, Int.reduceMod, Int.reduceAdd, Int.reduceSub, Int.reduceMul, Int.reduceNeg, Int.reducePow, Int.reduceEq, ↓reduceIte, Nat.reduceEqDiff, Nat.reduceAdd, Nat.reduceMul, Nat.reduceLeDiff, Nat.reduceSub, Nat.reduceLT, Int.reduceToNat, Int.reduceLT, Int.reduceLE, reduceCtorEq]
          · simp only [t13, go_sem, Int.reduceTMod, Int.reduceTDiv, Int.reduceDiv, Int.reduceMod, Int.reduceAdd, Int.reduceSub, Int.reduceMul, Int.reduceNeg, Int.reducePow, Int.reduceEq, ↓reduceIte, Nat.reduceEqDiff, Nat.reduceAdd, Nat.reduceMul, Nat.reduceLeDiff, Nat.reduceSub, Nat.reduceLT, Int.reduceToNat, Int.reduceLT, Int.reduceLE, reduceCtorEq]
          · simp only [t1, go_sem, Int.reduceTMod, Int.reduceTDiv, Int.reduceDiv, Int.reduceMod, Int.reduceAdd, Int.reduceSub, Int.reduceMul, Int.reduceNeg, Int.reducePow, Int.reduceEq, ↓reduceIte, Nat.reduceEqDiff, Nat.reduceAdd, Nat.reduceMul, Nat.reduceLeDiff, Nat.reduceSub, Nat.reduceLT, Int.reduceToNat, Int.reduceLT, Int.reduceLE, reduceCtorEq]
          · simp only; omega
          · intro id hid
            simp only
            simp only [nadd, na_eq, na_0 (show id < N4 by omega), na_0 (show id < N4 + 1 by omega), na_0 (show id < N4 + 2 by omega), tm id hid, go_sem, Int.reduceTMod, Int.reduceTDiv, Int.reduceDiv, Int.reduceMod, Int.reduceAdd, Int.reduceSub, Int.reduceMul, Int.reduceNeg, Int.reducePow, Int.reduceEq, ↓reduceIte, Nat.reduceEqDiff, Nat.reduceAdd, Nat.reduceMul, Nat.reduceLeDiff, Nat.reduceSub, Nat.reduceLT, Int.reduceToNat, Int.reduceLT, Int.reduceLE, reduceCtorEq]
          · simp only [hxt, Option.toList_none, List.append_nil, go_sem, Int.reduceTMod, Int.reduceTDiv, Int.reduceDiv, Int.reduceMod, Int.reduceAdd, Int.reduceSub, Int.reduceMul, Int.reduceNeg, Int.reducePow, Int.reduceEq, ↓reduceIte, Nat.reduceEqDiff, Nat.reduceAdd, Nat.reduceMul, Nat.reduceLeDiff, Nat.reduceSub, Nat.reduceLT, Int.reduceToNat, Int.reduceLT, Int.reduceLE, reduceCtorEq]
            exact tO.keep (by omega) (fun id _ h => by simp only [nadd, na_eq, na_0 h, na_0 (show id < N4 + 1 by omega), na_0 (show id < N4 + 2 by omega), go_sem, Int.reduceTMod, Int.reduceTDiv, Int.reduceDiv, Int.reduceMod, Int.reduceAdd, Int.reduceSub, Int.reduceMul, Int.reduceNeg, Int.reducePow, Int.reduceEq, ↓reduceIte, Nat.reduceEqDiff, Nat.reduceAdd, Nat.reduceMul, Nat.reduceLeDiff, Nat.reduceSub, Nat.reduceLT, Int.reduceToNat, Int.reduceLT, Int.reduceLE, reduceCtorEq])
        | some c =>
          rw [he] at vE hxt
          try simp only [r31_0, r31_1, r31_2, r31_3, r31_4, r31_5, r31_6, r31_7, r31_8, r31_9, r31_10, r31_11, r31_12, r31_13, r31_14, r31_15, r31_16, r31_17, c31, F31, l31_0, t21, t20, t19', t7', t1, g1, g2, g5, c4, d1, d2, d3, hrd, hrdl, hrdd, n2, n3, vE, regX, Int.toNat_natCast, go_sem, Int.reduceTMod, Int.reduceTDiv, Int.reduceDiv, Int.reduceMod, Int.reduceAdd, Int.reduceSub, Int.reduceMul, Int.reduceNeg, Int.reducePow, Int.reduceEq, ↓reduceIte, Nat.reduceEqDiff, Nat.reduceAdd, Nat.reduceMul, Nat.reduceLeDiff, Nat.reduceSub, Nat.reduceLT, Int.reduceToNat, Int.reduceLT, Int.reduceLE, reduceCtorEq]
          repeat' ((first | refine FK_split (fun h_ => ?_) (fun h_ => ?_) | refine GK_split (fun h_ => ?_) (fun h_ => ?_) | refine ite_both (fun h_ => ?_) (fun h_ => ?_)) <;> (try simp only [decide_eq_true_eq, decide_eq_false_iff_not, Bool.not_true, Bool.not_false, Bool.not_eq_true', Bool.not_eq_false', Bool.not_eq_eq_eq_not, Decidable.not_not] at h_) <;> (try simp only [r31_0, r31_1, r31_2, r31_3, r31_4, r31_5, r31_6, r31_7, r31_8, r31_9, r31_10, r31_11, r31_12, r31_13, r31_14, r31_15, r31_16, r31_17, c31, F31, l31_0, t21, t20, t19', t7', t1, g1, g2, g5, c4, d1, d2, d3, hrd, hrdl, hrdd, n2, n3, vE, regX, Int.toNat_natCast, h_, go_sem, Int.reduceTMod, Int.reduceTDiv, Int.reduceDiv, Int.reduceMod, Int.reduceAdd, Int.reduceSub, Int.reduceMul, Int.reduceNeg, Int.reducePow, Int.reduceEq, ↓reduceIte, Nat.reduceEqDiff, Nat.reduceAdd, Nat.reduceMul, Nat.reduceLeDiff, Nat.reduceSub, Nat.reduceLT, Int.reduceToNat, Int.reduceLT, Int.reduceLE, reduceCtorEq]))
          refine K_push ce2 (by decide) (p := c) (o := true) tO (by omega) (fun id _ h2 => by simp only [nadd, na_eq, na_0 h2, na_0 (show id < N4 + 1 by omega), na_0 (show id < N4 + 2 by omega), na_0 (show id < N4 + 3 by omega), go_sem, Int.reduceTMod, Int.reduceTDiv, Int.reduceDiv, Int.reduceMod, Int.reduceAdd, Int.reduceSub, Int.reduceMul, Int.reduceNeg, Int.reducePow, Int.reduceEq, ↓reduceIte, Nat.reduceEqDiff, Nat.reduceAdd, Nat.reduceMul, Nat.reduceLeDiff, Nat.reduceSub, Nat.reduceLT, Int.reduceToNat, Int.reduceLT, Int.reduceLE, reduceCtorEq]) (by simp only [nadd, na_eq, encX, go_sem, Int.reduceTMod, Int.reduceTDiv, Int.reduceDiv, Int.reduceMod, Int.reduceAdd, Int.reduceSub, Int.reduceMul, Int.reduceNeg, Int.reducePow, Int.reduceEq, ↓reduceIte, Nat.reduceEqDiff, Nat.reduceAdd, Nat.reduceMul, Nat.reduceLeDiff, Nat.reduceSub, Nat.reduceLT, Int.reduceToNat, Int.reduceLT, Int.reduceLE, reduceCtorEq]) (by rw [List.length_append]; omega) (by omega) ?_
          intro r' m' ho h1 h2
          try simp only [r31_0, r31_1, r31_2, r31_3, r31_4, r31_5, r31_6, r31_7, r31_8, r31_9, r31_10, r31_11, r31_12, r31_13, r31_14, r31_15, r31_16, r31_17, c31, F31, t21, g5, go_sem, Int.reduceTMod, Int.reduceTDiv, Int.reduceDiv, Int.reduceMod, Int.reduceAdd, Int.reduceSub, Int.reduceMul, Int.reduceNeg, Int.reducePow, Int.reduceEq, ↓reduceIte, Nat.reduceEqDiff, Nat.reduceAdd, Nat.reduceMul, Nat.reduceLeDiff, Nat.reduceSub, Nat.reduceLT, Int.reduceToNat, Int.reduceLT, Int.reduceLE, reduceCtorEq]
          repeat' ((first | refine FK_split (fun h_ => ?_) (fun h_ => ?_) | refine GK_split (fun h_ => ?_) (fun h_ => ?_) | refine ite_both (fun h_ => ?_) (fun h_ => ?_)) <;> (try simp only [decide_eq_true_eq, decide_eq_false_iff_not, Bool.not_true, Bool.not_false, Bool.not_eq_true', Bool.not_eq_false', Bool.not_eq_eq_eq_not, Decidable.not_not] at h_) <;> (try simp only [r31_0, r31_1, r31_2, r31_3, r31_4, r31_5, r31_6, r31_7, r31_8, r31_9, r31_10, r31_11, r31_12, r31_13, r31_14, r31_15, r31_16, r31_17, c31, F31, t21, g5, h_, go_sem, Int.reduceTMod, Int.reduceTDiv, Int.reduceDiv, Int.reduceMod, Int.reduceAdd, Int.reduceSub, Int.reduceMul, Int.reduceNeg, Int.reducePow, Int.reduceEq, ↓reduceIte, Nat.reduceEqDiff, Nat.reduceAdd, Nat.reduceMul, Nat.reduceLeDiff, Nat.reduceSub, Nat.reduceLT, Int.reduceToNat, Int.reduceLT, Int.reduceLE, reduceCtorEq]))
          refine next2 _ ⟨?_, ?_, ?_, ?_, ?_, ?_, ?_, ?_, ?_, ?_, ?_⟩
          · simp only [go_sem, Int.reduceTMod, Int.reduceTDiv, Int.reduceDiv, Int.reduceMod, Int.reduceAdd, Int.reduceSub, Int.reduceMul, Int.reduceNeg, Int.reducePow, Int.reduceEq, ↓reduceIte, Nat.reduceEqDiff, Nat.reduceAdd, Nat.reduceMul, Nat.reduceLeDiff, Nat.reduceSub, Nat.reduceLT, Int.reduceToNat, Int.reduceLT, Int.reduceLE, reduceCtorEq]
          · simp only [t20, go_sem, Int.reduceTMod, Int.reduceTDiv, Int.reduceDiv, Int.reduceMod, Int.reduceAdd, Int.reduceSub, Int.reduceMul, Int.reduceNeg, Int.reducePow, Int.reduceEq, ↓reduceIte, Nat.reduceEqDiff, Nat.reduceAdd, Nat.reduceMul, Nat.reduceLeDiff, Nat.reduceSub, Nat.reduceLT, Int.reduceToNat, Int.reduceLT, Int.reduceLE, reduceCtorEq]
          · simp only [t19, go_sem, Int.reduceTMod, Int.reduceTDiv, Int.reduceDiv, Int.reduceMod, Int.reduceAdd, Int.reduceSub, Int.reduceMul, Int.reduceNeg, Int.reducePow, Int.reduceEq, ↓reduceIte, Nat.reduceEqDiff, Nat.reduceAdd, Nat.reduceMul, Nat.reduceLeDiff, Nat.reduceSub, Nat.reduceLT, Int.reduceToNat, Int.reduceLT, Int.reduceLE, reduceCtorEq]
          · simp only [t7, go_sem, Int.reduceTMod, Int.reduceTDiv, Int.reduceDiv, Int.reduceMod, Int.reduceAdd, Int.reduceSub, Int.reduceMul, Int.reduceNeg, Int.reducePow, Int.reduceEq, ↓reduceIte, Nat.reduceEqDiff, Nat.reduceAdd, Nat.reduceMul, Nat.reduceLeDiff, Nat.reduceSub, Nat.reduceLT, Int.reduceToNat, Int.reduceLT, Int.reduceLE, reduceCtorEq]
          · simp only [t15, go_sem, Int.reduceTMod, Int.reduceTDiv, Int.reduceDiv, Int.reduceMod, Int.reduceAdd, Int.reduceSub, Int.reduceMul, Int.reduceNeg, Int.reducePow, Int.reduceEq, ↓reduceIte, Nat.reduceEqDiff, Nat.reduceAdd, Nat.reduceMul, Nat.reduceLeDiff, Nat.reduceSub, Nat.reduceLT, Int.reduceToNat, Int.reduceLT, Int.reduceLE, reduceCtorEq]
          · simp only [t14, go_sem, Int.reduceTMod, Int.reduceTDiv, Int.reduceDiv, Int.reduceMod, Int.reduceAdd, Int.reduceSub, Int.reduceMul, Int.reduceNeg, Int.reducePow, Int.reduceEq, ↓reduceIte, Nat.reduceEqDiff, Nat.reduceAdd, Nat.reduceMul, Nat.reduceLeDiff, Nat.reduceSub, Nat.reduceLT, Int.reduceToNat, Int.reduceLT, Int.reduceLE, reduceCtorEq]
          · simp only [t13, go_sem, Int.reduceTMod, Int.reduceTDiv, Int.reduceDiv, Int.reduceMod, Int.reduceAdd, Int.reduceSub, Int.reduceMul, Int.reduceNeg, Int.reducePow, Int.reduceEq, ↓reduceIte, Nat.reduceEqDiff, Nat.reduceAdd, Nat.reduceMul, Nat.reduceLeDiff, Nat.reduceSub, Nat.reduceLT, Int.reduceToNat, Int.reduceLT, Int.reduceLE, reduceCtorEq]
          · simp only [t1, go_sem, Int.reduceTMod, Int.reduceTDiv, Int.reduceDiv, Int.reduceMod, Int.reduceAdd, Int.reduceSub, Int.reduceMul, Int.reduceNeg, Int.reducePow, Int.reduceEq, ↓reduceIte, Nat.reduceEqDiff, Nat.reduceAdd, Nat.reduceMul, Nat.reduceLeDiff, Nat.reduceSub, Nat.reduceLT, Int.reduceToNat, Int.reduceLT, Int.reduceLE, reduceCtorEq]
          · simp only; omega
          · intro id hid
            simp only
            rw [h1 id (by omega)]
            simp only [nadd, na_eq, na_0 (show id < N4 by omega), na_0 (show id < N4 + 1 by omega), na_0 (show id < N4 + 2 by omega), na_0 (show id < N4 + 3 by omega), tm id hid, go_sem, Int.reduceTMod, Int.reduceTDiv, Int.reduceDiv, Int.reduceMod, Int.reduceAdd, Int.reduceSub, Int.reduceMul, Int.reduceNeg, Int.reducePow, Int.reduceEq, ↓reduceIte, Nat.reduceEqDiff, Nat.reduceAdd, Nat.reduceMul, Nat.reduceLeDiff, Nat.reduceSub, Nat.reduceLT, Int.reduceToNat, Int.reduceLT, Int.reduceLE, reduceCtorEq]
          · simp only [hxt, Option.toList_some, go_sem, Int.reduceTMod, Int.reduceTDiv, Int.reduceDiv, Int.reduceMod, Int.reduceAdd, Int.reduceSub, Int.reduceMul, Int.reduceNeg, Int.reducePow, Int.reduceEq, ↓reduceIte, Nat.reduceEqDiff, Nat.reduceAdd, Nat.reduceMul, Nat.reduceLeDiff, Nat.reduceSub, Nat.reduceLT, Int.reduceToNat, Int.reduceLT, Int.reduceLE, reduceCtorEq]
            rw [← List.append_assoc]
            exact ho
      · have hJ : (j + l.length - 1) % l.length = j - 1 := by rw [show j + l.length - 1 = (j - 1) + l.length by omega, Nat.add_mod_right]; exact Nat.mod_eq_of_lt (by omega)
        have c4 : ((0 : Int) < (j : Int)) = True := eq_true (by omega)
        generalize (l[l.length - 1]'(by omega)) = P9 at *
        generalize (l[(j + l.length - 1) % l.length]'hj') = P at *
        generalize l[j] = q at *
        rw [hJ] at hrdd
        have d4 : IntKind.i64.wrap ((j : Int) - 1) = ((j - 1 : Nat) : Int) := (wr_eq (by omega) (by omega)).trans (by omega)
        have d5 : (((j - 1 : Nat) : Int) < (l.length : Int)) = True := eq_true (by omega)
        have d6 : (0 ≤ ((j - 1 : Nat) : Int)) = True := eq_true (by omega)
        cases he : edgeX P q y with
        | none =>
          rw [he] at vE hxt
          try simp only [r31_0, r31_1, r31_2, r31_3, r31_4, r31_5, r31_6, r31_7, r31_8, r31_9, r31_10, r31_11, r31_12, r31_13, r31_14, r31_15, r31_16, r31_17, c31, F31, l31_0, t21, t20, t19', t7', t1, g1, g2, g5, c4, d1, d2, d3, hrd, hrdl, hrdd, n2, n3, vE, regX, Int.toNat_natCast, d4, d5, d6, go_sem, Int.reduceTMod, Int.reduceTDiv, Int.reduceDiv, Int.reduceMod, Int.reduceAdd, Int.reduceSub, Int.reduceMul, Int.reduceNeg, Int.reducePow, Int.reduceEq, ↓reduceIte, Nat.reduceEqDiff, Nat.reduceAdd, Nat.reduceMul, Nat.reduceLeDiff, Nat.reduceSub, Nat.reduceLT, Int.reduceToNat, Int.reduceLT, Int.reduceLE, reduceCtorEq]
          repeat' ((first | refine FK_split (fun h_ => ?_) (fun h_ => ?_) | refine GK_split (fun h_ => ?_) (fun h_ => ?_) | refine ite_both (fun h_ => ?_) (fun h_ => ?_)) <;> (try simp only [decide_eq_true_eq, decide_eq_false_iff_not, Bool.not_true, Bool.not_false, Bool.not_eq_true', Bool.not_eq_false', Bool.not_eq_eq_eq_not, Decidable.not_not] at h_) <;> (try simp only [r31_0, r31_1, r31_2, r31_3, r31_4, r31_5, r31_6, r31_7, r31_8, r31_9, r31_10, r31_11, r31_12, r31_13, r31_14, r31_15, r31_16, r31_17, c31, F31, l31_0, t21, t20, t19', t7', t1, g1, g2, g5, c4, d1, d2, d3, hrd, hrdl, hrdd, n2, n3, vE, regX, Int.toNat_natCast, d4, d5, d6, h_, go_sem, Int.reduceTMod, Int.reduceTDiv, Int.reduceDiv, Int.reduceMod, Int.reduceAdd, Int.reduceSub, Int.reduceMul, Int.reduceNeg, Int.reducePow, Int.reduceEq, ↓reduceIte, Nat.reduceEqDiff, Nat.reduceAdd, Nat.reduceMul, Nat.reduceLeDiff, Nat.reduceSub, Nat.reduceLT, Int.reduceToNat, Int.reduceLT, Int.reduceLE, reduceCtorEq]))
          refine next2 _ ⟨?_, ?_, ?_, ?_, ?_, ?_, ?_, ?_, ?_, ?_, ?_⟩
          · simp only [go_sem, Int.reduceTMod, Int.reduceTDiv, Int.reduceDiv, Int.reduceMod, Int.reduceAdd, Int.reduceSub, Int.reduceMul, Int.reduceNeg, Int.reducePow, Int.reduceEq, ↓reduceIte, Nat.reduceEqDiff, Nat.reduceAdd, Nat.reduceMul, Nat.reduceLeDiff, Nat.reduceSub, Nat.reduceLT, Int.reduceToNat, Int.reduceLT, Int.reduceLE, reduceCtorEq]
          · simp only [t20, go_sem, Int.reduceTMod, Int.reduceTDiv, Int.reduceDiv, Int.reduceMod, Int.reduceAdd, Int.reduceSub, Int.reduceMul, Int.reduceNeg, Int.reducePow, Int.reduceEq, ↓reduceIte, Nat.reduceEqDiff, Nat.reduceAdd, Nat.reduceMul, Nat.reduceLeDiff, Nat.reduceSub, Nat.reduceLT, Int.reduceToNat, Int.reduceLT, Int.reduceLE, reduceCtorEq]
          · simp only [t19, go_sem, Int.reduceTMod, Int.reduceTDiv, Int.reduceDiv, Int.reduceMod, Int.reduceAdd, Int.reduceSub, Int.reduceMul, Int.reduceNeg, Int.reducePow, Int.reduceEq, ↓reduceIte, Nat.reduceEqDiff, Nat.reduceAdd, Nat.reduceMul, Nat.reduceLeDiff, Nat.reduceSub, Nat.reduceLT, Int.reduceToNat, Int.reduceLT, Int.reduceLE, reduceCtorEq]
          · simp only [t7, go_sem, Int.reduceTMod, Int.reduceTDiv, Int.reduceDiv, Int.reduceMod, Int.reduceAdd, Int.reduceSub, Int.reduceMul, Int.reduceNeg, Int.reducePow, Int.reduceEq, ↓reduceIte, Nat.reduceEqDiff, Nat.reduceAdd, Nat.reduceMul, Nat.reduceLeDiff, Nat.reduceSub, Nat.reduceLT, Int.reduceToNat, Int.reduceLT, Int.reduceLE, reduceCtorEq]
          · simp only [t15, go_sem, Int.reduceTMod, Int.reduceTDiv, Int.reduceDiv, Int.reduceMod, Int.reduceAdd, Int.reduceSub, Int.reduceMul, Int.reduceNeg, Int.reducePow, Int.reduceEq, ↓reduceIte, Nat.reduceEqDiff, Nat.reduceAdd, Nat.reduceMul, Nat.reduceLeDiff, Nat.reduceSub, Nat.reduceLT, Int.reduceToNat, Int.reduceLT, Int.reduceLE, reduceCtorEq]
          · simp only [t14, go_sem, Int.reduceTMod, Int.reduceTDiv, Int.reduceDiv, Int.reduceMod, Int.reduceAdd, Int.reduceSub, Int.reduceMul, Int.reduceNeg, Int.reducePow, Int.reduceEq, ↓reduceIte, Nat.reduceEqDiff, Nat.reduceAdd, Nat.reduceMul, Nat.reduceLeDiff, Nat.reduceSub, Nat.reduceLT, Int.reduceToNat, Int.reduceLT, Int.reduceLE, reduceCtorEq]
          · simp only [t13, go_sem, Int.reduceTMod, Int.reduceTDiv, Int.reduceDiv, Int.reduceMod, Int.reduceAdd, Int.reduceSub, Int.reduceMul, Int.reduceNeg, Int.reducePow, Int.reduceEq, ↓reduceIte, Nat.reduceEqDiff, Nat.reduceAdd, Nat.reduceMul, Nat.reduceLeDiff, Nat.reduceSub, Nat.reduceLT, Int.reduceToNat, Int.reduceLT, Int.reduceLE, reduceCtorEq]
          · simp only [t1, go_sem, Int.reduceTMod, Int.reduceTDiv, Int.reduceDiv, Int.reduceMod, Int.reduceAdd, Int.reduceSub, Int.reduceMul, Int.reduceNeg, Int.reducePow, Int.reduceEq, ↓reduceIte, Nat.reduceEqDiff, Nat.reduceAdd, Nat.reduceMul, Nat.reduceLeDiff, Nat.reduceSub, Nat.reduceLT, Int.reduceToNat, Int.reduceLT, Int.reduceLE, reduceCtorEq]
          · simp only; omega
          · intro id hid
            simp only
            simp only [nadd, na_eq, na_0 (show id < N4 by omega), na_0 (show id < N4 + 1 by omega), na_0 (show id < N4 + 2 by omega), tm id hid, go_sem, Int.reduceTMod, Int.reduceTDiv, Int.reduceDiv, Int.reduceMod, Int.reduceAdd, Int.reduceSub, Int.reduceMul, Int.reduceNeg, Int.reducePow, Int.reduceEq, ↓reduceIte, Nat.reduceEqDiff, Nat.reduceAdd, Nat.reduceMul, Nat.reduceLeDiff, Nat.reduceSub, Nat.reduceLT, Int.reduceToNat, Int.reduceLT, Int.reduceLE, reduceCtorEq]
          · simp only [hxt, Option.toList_none, List.append_nil, go_sem, Int.reduceTMod, Int.reduceTDiv, Int.reduceDiv, Int.reduceMod, Int.reduceAdd, Int.reduceSub, Int.reduceMul, Int.reduceNeg, Int.reducePow, Int.reduceEq, ↓reduceIte, Nat.reduceEqDiff, Nat.reduceAdd, Nat.reduceMul, Nat.reduceLeDiff, Nat.reduceSub, Nat.reduceLT, Int.reduceToNat, Int.reduceLT, Int.reduceLE, reduceCtorEq]
            exact tO.keep (by omega) (fun id _ h => by simp only [nadd, na_eq, na_0 h, na_0 (show id < N4 + 1 by omega), na_0 (show id < N4 + 2 by omega), go_sem, Int.reduceTMod, Int.reduceTDiv, Int.reduceDiv, Int.reduceMod, Int.reduceAdd, Int.reduceSub, Int.reduceMul, Int.reduceNeg, Int.reducePow, Int.reduceEq, ↓reduceIte, Nat.reduceEqDiff, Nat.reduceAdd, Nat.reduceMul, Nat.reduceLeDiff, Nat.reduceSub, Nat.reduceLT, Int.reduceToNat, Int.reduceLT, Int.reduceLE, reduceCtorEq])
        | some c =>
          rw [he] at vE hxt
          try simp only [r31_0, r31_1, r31_2, r31_3, r31_4, r31_5, r31_6, r31_7, r31_8, r31_9, r31_10, r31_11, r31_12, r31_13, r31_14, r31_15, r31_16, r31_17, c31, F31, l31_0, t21, t20, t19', t7', t1, g1, g2, g5, c4, d1, d2, d3, hrd, hrdl, hrdd, n2, n3, vE, regX, Int.toNat_natCast, d4, d5, d6, go_sem, Int.reduceTMod, Int.reduceTDiv, Int.reduceDiv, Int.reduceMod, Int.reduceAdd, Int.reduceSub, Int.reduceMul, Int.reduceNeg, Int.reducePow, Int.reduceEq, ↓reduceIte, Nat.reduceEqDiff, Nat.reduceAdd, Nat.reduceMul, Nat.reduceLeDiff, Nat.reduceSub, Nat.reduceLT, Int.reduceToNat, Int.reduceLT, Int.reduceLE, reduceCtorEq]
          repeat' ((first | refine FK_split (fun h_ => ?_) (fun h_ => ?_) | refine GK_split (fun h_ => ?_) (fun h_ => ?_) | refine ite_both (fun h_ => ?_) (fun h_ => ?_)) <;> (try simp only [decide_eq_true_eq, decide_eq_false_iff_not, Bool.not_true, Bool.not_false, Bool.not_eq_true', Bool.not_eq_false', Bool.not_eq_eq_eq_not, Decidable.not_not] at h_) <;> (try simp only [r31_0, r31_1, r31_2, r31_3, r31_4, r31_5, r31_6, r31_7, r31_8, r31_9, r31_10, r31_11, r31_12, r31_13, r31_14, r31_15, r31_16, r31_17, c31, F31, l31_0, t21, t20, t19', t7', t1, g1, g2, g5, c4, d1, d2, d3, hrd, hrdl, hrdd, n2, n3, vE, regX, Int.toNat_natCast, d4, d5, d6, h_, go_sem, Int.reduceTMod, Int.reduceTDiv, Int.reduceDiv, Int.reduceMod, Int.reduceAdd, Int.reduceSub, Int.reduceMul, Int.reduceNeg, Int.reducePow, Int.reduceEq, ↓reduceIte, Nat.reduceEqDiff, Nat.reduceAdd, Nat.reduceMul, Nat.reduceLeDiff, Nat.reduceSub, Nat.reduceLT, Int.reduceToNat, Int.reduceLT, Int.reduceLE, reduceCtorEq]))
          refine K_push ce2 (by decide) (p := c) (o := true) tO (by omega) (fun id _ h2 => by simp only [nadd, na_eq, na_0 h2, na_0 (show id < N4 + 1 by omega), na_0 (show id < N4 + 2 by omega), na_0 (show id < N4 + 3 by omega), go_sem, Int.reduceTMod, Int.reduceTDiv, Int.reduceDiv, Int.reduceMod, Int.reduceAdd, Int.reduceSub, Int.reduceMul, Int.reduceNeg, Int.reducePow, Int.reduceEq, ↓reduceIte, Nat.reduceEqDiff, Nat.reduceAdd, Nat.reduceMul, Nat.reduceLeDiff, Nat.reduceSub, Nat.reduceLT, Int.reduceToNat, Int.reduceLT, Int.reduceLE, reduceCtorEq]) (by simp only [nadd, na_eq, encX, go_sem, Int.reduceTMod, Int.reduceTDiv, Int.reduceDiv, Int.reduceMod, Int.reduceAdd, Int.reduceSub, Int.reduceMul, Int.reduceNeg, Int.reducePow, Int.reduceEq, ↓reduceIte, Nat.reduceEqDiff, Nat.reduceAdd, Nat.reduceMul, Nat.reduceLeDiff, Nat.reduceSub, Nat.reduceLT, Int.reduceToNat, Int.reduceLT, Int.reduceLE, reduceCtorEq]) (by rw [List.length_append]; omega) (by omega) ?_
          intro r' m' ho h1 h2
          try simp only [r31_0, r31_1, r31_2, r31_3, r31_4, r31_5, r31_6, r31_7, r31_8, r31_9, r31_10, r31_11, r31_12, r31_13, r31_14, r31_15, r31_16, r31_17, c31, F31, t21, g5, go_sem, Int.reduceTMod, Int.reduceTDiv, Int.reduceDiv, Int.reduceMod, Int.reduceAdd, Int.reduceSub, Int.reduceMul, Int.reduceNeg, Int.reducePow, Int.reduceEq, ↓reduceIte, Nat.reduceEqDiff, Nat.reduceAdd, Nat.reduceMul, Nat.reduceLeDiff, Nat.reduceSub, Nat.reduceLT, Int.reduceToNat, Int.reduceLT, Int.reduceLE, reduceCtorEq]
          repeat' ((first | refine FK_split (fun h_ => ?_) (fun h_ => ?_) | refine GK_split (fun h_ => ?_) (fun h_ => ?_) | refine ite_both (fun h_ => ?_) (fun h_ => ?_)) <;> (try simp only [decide_eq_true_eq, decide_eq_false_iff_not, Bool.not_true, Bool.not_false, Bool.not_eq_true', Bool.not_eq_false', Bool.not_eq_eq_eq_not, Decidable.not_not] at h_) <;> (try simp only [r31_0, r31_1, r31_2, r31_3, r31_4, r31_5, r31_6, r31_7, r31_8, r31_9, r31_10, r31_11, r31_12, r31_13, r31_14, r31_15, r31_16, r31_17, c31, F31, t21, g5, h_, go_sem, Int.reduceTMod, Int.reduceTDiv, Int.reduceDiv, Int.reduceMod, Int.reduceAdd, Int.reduceSub, Int.reduceMul, Int.reduceNeg, Int.reducePow, Int.reduceEq, ↓reduceIte, Nat.reduceEqDiff, Nat.reduceAdd, Nat.reduceMul, Nat.reduceLeDiff, Nat.reduceSub, Nat.reduceLT, Int.reduceToNat, Int.reduceLT, Int.reduceLE, reduceCtorEq]))
          refine next2 _ ⟨?_, ?_, ?_, ?_, ?_, ?_, ?_, ?_, ?_, ?_, ?_⟩
          · simp only [go_sem, Int.reduceTMod, Int.reduceTDiv, Int.reduceDiv, Int.reduceMod, Int.reduceAdd, Int.reduceSub, Int.reduceMul, Int.reduceNeg, Int.reducePow, Int.reduceEq, ↓reduceIte, Nat.reduceEqDiff, Nat.reduceAdd, Nat.reduceMul, Nat.reduceLeDiff, Nat.reduceSub, Nat.reduceLT, Int.reduceToNat, Int.reduceLT, Int.reduceLE, reduceCtorEq]
          · simp only [t20, go_sem, Int.reduceTMod, Int.reduceTDiv, Int.reduceDiv, Int.reduceMod, Int.reduceAdd, Int.reduceSub, Int.reduceMul, Int.reduceNeg, Int.reducePow, Int.reduceEq, ↓reduceIte, Nat.reduceEqDiff, Nat.reduceAdd, Nat.reduceMul, Nat.reduceLeDiff, Nat.reduceSub, Nat.reduceLT, Int.reduceToNat, Int.reduceLT, Int.reduceLE, reduceCtorEq]
          · simp only [t19, go_sem, Int.reduceTMod, Int.reduceTDiv, Int.reduceDiv, Int.reduceMod, Int.reduceAdd, Int.reduceSub, Int.reduceMul, Int.reduceNeg, Int.reducePow, Int.reduceEq, ↓reduceIte, Nat.reduceEqDiff, Nat.reduceAdd, Nat.reduceMul, Nat.reduceLeDiff, Nat.reduceSub, Nat.reduceLT, Int.reduceToNat, Int.reduceLT, Int.reduceLE, reduceCtorEq]
          · simp only [t7, go_sem, Int.reduceTMod, Int.reduceTDiv, Int.reduceDiv, Int.reduceMod, Int.reduceAdd, Int.reduceSub, Int.reduceMul, Int.reduceNeg, Int.reducePow, Int.reduceEq, ↓reduceIte, Nat.reduceEqDiff, Nat.reduceAdd, Nat.reduceMul, Nat.reduceLeDiff, Nat.reduceSub, Nat.reduceLT, Int.reduceToNat, Int.reduceLT, Int.reduceLE, reduceCtorEq]
          · simp only [t15, go_sem, Int.reduceTMod, Int.reduceTDiv, Int.reduceDiv, Int.reduceMod, Int.reduceAdd, Int.reduceSub, Int.reduceMul, Int.reduceNeg, Int.reducePow, Int.reduceEq, ↓reduceIte, Nat.reduceEqDiff, Nat.reduceAdd, Nat.reduceMul, Nat.reduceLeDiff, Nat.reduceSub, Nat.reduceLT, Int.reduceToNat, Int.reduceLT, Int.reduceLE, reduceCtorEq]
          · simp only [t14, go_sem, Int.reduceTMod, Int.reduceTDiv, Int.reduceDiv, Int.reduceMod, Int.reduceAdd, Int.reduceSub, Int.reduceMul, Int.reduceNeg, Int.reducePow, Int.reduceEq, ↓reduceIte, Nat.reduceEqDiff, Nat.reduceAdd, Nat.reduceMul, Nat.reduceLeDiff, Nat.reduceSub, Nat.reduceLT, Int.reduceToNat, Int.reduceLT, Int.reduceLE, reduceCtorEq]
          · simp only [t13, go_sem, Int.reduceTMod, Int.reduceTDiv, Int.reduceDiv, Int.reduceMod, Int.reduceAdd, Int.reduceSub, Int.reduceMul, Int.reduceNeg, Int.reducePow, Int.reduceEq, ↓reduceIte, Nat.reduceEqDiff, Nat.reduceAdd, Nat.reduceMul, Nat.reduceLeDiff, Nat.reduceSub, Nat.reduceLT, Int.reduceToNat, Int.reduceLT, Int.reduceLE, reduceCtorEq]
          · simp only [t1, go_sem, Int.reduceTMod, Int.reduceTDiv, Int.reduceDiv, Int.reduceMod, Int.reduceAdd, Int.reduceSub, Int.reduceMul, Int.reduceNeg, Int.reducePow, Int.reduceEq, ↓reduceIte, Nat.reduceEqDiff, Nat.reduceAdd, Nat.reduceMul, Nat.reduceLeDiff, Nat.reduceSub, Nat.reduceLT, Int.reduceToNat, Int.reduceLT, Int.reduceLE, reduceCtorEq]
          · simp only; omega
          · intro id hid
            simp only
            rw [h1 id (by omega)]
            simp only [nadd, na_eq, na_0 (show id < N4 by omega), na_0 (show id < N4 + 1 by omega), na_0 (show id < N4 + 2 by omega), na_0 (show id < N4 + 3 by omega), tm id hid, go_sem, Int.reduceTMod, Int.reduceTDiv, Int.reduceDiv, Int.reduceMod, Int.reduceAdd, Int.reduceSub, Int.reduceMul, Int.reduceNeg, Int.reducePow, Int.reduceEq, ↓reduceIte, Nat.reduceEqDiff, Nat.reduceAdd, Nat.reduceMul, Nat.reduceLeDiff, Nat.reduceSub, Nat.reduceLT, Int.reduceToNat, Int.reduceLT, Int.reduceLE, reduceCtorEq]
          · simp only [hxt, Option.toList_some, go_sem, Int.reduceTMod, Int.reduceTDiv, Int.reduceDiv, Int.reduceMod, Int.reduceAdd, Int.reduceSub, Int.reduceMul, Int.reduceNeg, Int.reducePow, Int.reduceEq, ↓reduceIte, Nat.reduceEqDiff, Nat.reduceAdd, Nat.reduceMul, Nat.reduceLeDiff, Nat.reduceSub, Nat.reduceLT, Int.reduceToNat, Int.reduceLT, Int.reduceLE, reduceCtorEq]
            rw [← List.append_assoc]
            exact ho
    · obtain ⟨e4, M4, N4⟩ := s
      obtain ⟨t21, t20, t19, t7, t15, t14, t13, t1, tn, tm, tO⟩ := hs
      simp only at t21 t20 t19 t7 t15 t14 t13 t1 tn tm tO
      have g1 : ((l.length : Int) < (l.length : Int)) = False := eq_false (by omega)
      try simp only [r31_0, r31_1, r31_2, r31_3, r31_4, r31_5, r31_6, r31_7, r31_8, r31_9, r31_10, r31_11, r31_12, r31_13, r31_14, r31_15, r31_16, r31_17, c31, F31, l31_0, t21, t20, t15, g1, c7, go_sem, Int.reduceTMod, Int.reduceTDiv, Int.reduceDiv, Int.reduceMod, Int.reduceAdd, Int.reduceSub, Int.reduceMul, Int.reduceNeg, Int.reducePow, Int.reduceEq, ↓reduceIte, Nat.reduceEqDiff, Nat.reduceAdd, Nat.reduceMul, Nat.reduceLeDiff, Nat.reduceSub, Nat.reduceLT, Int.reduceToNat, Int.reduceLT, Int.reduceLE, reduceCtorEq]
      repeat' ((first | refine FK_split (fun h_ => ?_) (fun h_ => ?_) | refine GK_split (fun h_ => ?_) (fun h_ => ?_) | refine ite_both (fun h_ => ?_) (fun h_ => ?_)) <;> (try simp only [decide_eq_true_eq, decide_eq_false_iff_not, Bool.not_true, Bool.not_false, Bool.not_eq_true', Bool.not_eq_false', Bool.not_eq_eq_eq_not, Decidable.not_not] at h_) <;> (try simp only [r31_0, r31_1, r31_2, r31_3, r31_4, r31_5, r31_6, r31_7, r31_8, r31_9, r31_10, r31_11, r31_12, r31_13, r31_14, r31_15, r31_16, r31_17, c31, F31, l31_0, t21, t20, t15, g1, c7, h_, go_sem, Int.reduceTMod, Int.reduceTDiv, Int.reduceDiv, Int.reduceMod, Int.reduceAdd, Int.reduceSub, Int.reduceMul, Int.reduceNeg, Int.reducePow, Int.reduceEq, ↓reduceIte, Nat.reduceEqDiff, Nat.reduceAdd, Nat.reduceMul, Nat.reduceLeDiff, Nat.reduceSub, Nat.reduceLT, Int.reduceToNat, Int.reduceLT, Int.reduceLE, reduceCtorEq]))
      refine next _ ⟨?_, ?_, ?_, ?_, ?_, ?_, ?_⟩
      · simp only [go_sem, Int.reduceTMod, Int.reduceTDiv, Int.reduceDiv, Int.reduceMod, Int.reduceAdd, Int.reduceSub, Int.reduceMul, Int.reduceNeg, Int.reducePow, Int.reduceEq, ↓reduceIte, Nat.reduceEqDiff, Nat.reduceAdd, Nat.reduceMul, Nat.reduceLeDiff, Nat.reduceSub, Nat.reduceLT, Int.reduceToNat, Int.reduceLT, Int.reduceLE, reduceCtorEq]
      · simp only [t14, go_sem, Int.reduceTMod, Int.reduceTDiv, Int.reduceDiv, Int.reduceMod, Int.reduceAdd, Int.reduceSub, Int.reduceMul, Int.reduceNeg, Int.reducePow, Int.reduceEq, ↓reduceIte, Nat.reduceEqDiff, Nat.reduceAdd, Nat.reduceMul, Nat.reduceLeDiff, Nat.reduceSub, Nat.reduceLT, Int.reduceToNat, Int.reduceLT, Int.reduceLE, reduceCtorEq]
      · simp only [t13, go_sem, Int.reduceTMod, Int.reduceTDiv, Int.reduceDiv, Int.reduceMod, Int.reduceAdd, Int.reduceSub, Int.reduceMul, Int.reduceNeg, Int.reducePow, Int.reduceEq, ↓reduceIte, Nat.reduceEqDiff, Nat.reduceAdd, Nat.reduceMul, Nat.reduceLeDiff, Nat.reduceSub, Nat.reduceLT, Int.reduceToNat, Int.reduceLT, Int.reduceLE, reduceCtorEq]
      · simp only [t1, go_sem, Int.reduceTMod, Int.reduceTDiv, Int.reduceDiv, Int.reduceMod, Int.reduceAdd, Int.reduceSub, Int.reduceMul, Int.reduceNeg, Int.reducePow, Int.reduceEq, ↓reduceIte, Nat.reduceEqDiff, Nat.reduceAdd, Nat.reduceMul, Nat.reduceLeDiff, Nat.reduceSub, Nat.reduceLT, Int.reduceToNat, Int.reduceLT, Int.reduceLE, reduceCtorEq]
      · simp only; omega
      · exact tm
      · simp only [hxs, go_sem, Int.reduceTMod, Int.reduceTDiv, Int.reduceDiv, Int.reduceMod, Int.reduceAdd, Int.reduceSub, Int.reduceMul, Int.reduceNeg, Int.reducePow, Int.reduceEq, ↓reduceIte, Nat.reduceEqDiff, Nat.reduceAdd, Nat.reduceMul, Nat.reduceLeDiff, Nat.reduceSub, Nat.reduceLT, Int.reduceToNat, Int.reduceLT, Int.reduceLE, reduceCtorEq]
        exact tO
    · simp only [go_sem, Int.reduceTMod, Int.reduceTDiv, Int.reduceDiv, Int.reduceMod, Int.reduceAdd, Int.reduceSub, Int.reduceMul, Int.reduceNeg, Int.reducePow, Int.reduceEq, ↓reduceIte, Nat.reduceEqDiff, Nat.reduceAdd, Nat.reduceMul, Nat.reduceLeDiff, Nat.reduceSub, Nat.reduceLT, Int.reduceToNat, Int.reduceLT, Int.reduceLE, reduceCtorEq]
    · simp only [go_sem, Int.reduceTMod, Int.reduceTDiv, Int.reduceDiv, Int.reduceMod, Int.reduceAdd, Int.reduceSub, Int.reduceMul, Int.reduceNeg, Int.reducePow, Int.reduceEq, ↓reduceIte, Nat.reduceEqDiff, Nat.reduceAdd, Nat.reduceMul, Nat.reduceLeDiff, Nat.reduceSub, Nat.reduceLT, Int.reduceToNat, Int.reduceLT, Int.reduceLE, reduceCtorEq]
    · simp only [go_sem, Int.reduceTMod, Int.reduceTDiv, Int.reduceDiv, Int.reduceMod, Int.reduceAdd, Int.reduceSub, Int.reduceMul, Int.reduceNeg, Int.reducePow, Int.reduceEq, ↓reduceIte, Nat.reduceEqDiff, Nat.reduceAdd, Nat.reduceMul, Nat.reduceLeDiff, Nat.reduceSub, Nat.reduceLT, Int.reduceToNat, Int.reduceLT, Int.reduceLE, reduceCtorEq]
    · simp only [go_sem, Int.reduceTMod, Int.reduceTDiv, Int.reduceDiv, Int.reduceMod, Int.reduceAdd, Int.reduceSub, Int.reduceMul, Int.reduceNeg, Int.reducePow, Int.reduceEq, ↓reduceIte, Nat.reduceEqDiff, Nat.reduceAdd, Nat.reduceMul, Nat.reduceLeDiff, Nat.reduceSub, Nat.reduceLT, Int.reduceToNat, Int.reduceLT, Int.reduceLE, reduceCtorEq]
    · simp only [q15, go_sem, Int.reduceTMod, Int.reduceTDiv, Int.reduceDiv, Int.reduceMod, Int.reduceAdd, Int.reduceSub, Int.reduceMul, Int.reduceNeg, Int.reducePow, Int.reduceEq, ↓reduceIte, Nat.reduceEqDiff, Nat.reduceAdd, Nat.reduceMul, Nat.reduceLeDiff, Nat.reduceSub, Nat.reduceLT, Int.reduceToNat, Int.reduceLT, Int.reduceLE, reduceCtorEq]
    · simp only [q14, go_sem, Int.reduceTMod, Int.reduceTDiv, Int.reduceDiv, Int.reduceMod, Int.reduceAdd, Int.reduceSub, Int.reduceMul, Int.reduceNeg, Int.reducePow, Int.reduceEq, ↓reduceIte, Nat.reduceEqDiff, Nat.reduceAdd, Nat.reduceMul, Nat.reduceLeDiff, Nat.reduceSub, Nat.reduceLT, Int.reduceToNat, Int.reduceLT, Int.reduceLE, reduceCtorEq]
    · simp only [q13, go_sem, Int.reduceTMod, Int.reduceTDiv, Int.reduceDiv, Int.reduceMod, Int.reduceAdd, Int.reduceSub, Int.reduceMul, Int.reduceNeg, Int.reducePow, Int.reduceEq, ↓reduceIte, Nat.reduceEqDiff, Nat.reduceAdd, Nat.reduceMul, Nat.reduceLeDiff, Nat.reduceSub, Nat.reduceLT, Int.reduceToNat, Int.reduceLT, Int.reduceLE, reduceCtorEq]
    · simp only [q1, go_sem, Int.reduceTMod, Int.reduceTDiv, Int.reduceDiv, Int.reduceMod, Int.reduceAdd, Int.reduceSub, Int.reduceMul, Int.reduceNeg, Int.reducePow, Int.reduceEq, ↓reduceIte, Nat.reduceEqDiff, Nat.reduceAdd, Nat.reduceMul, Nat.reduceLeDiff, Nat.reduceSub, Nat.reduceLT, Int.reduceToNat, Int.reduceLT, Int.reduceLE, reduceCtorEq]
    · exact Nat.le_refl _
    · exact qm
    · simp only [xTo, List.append_nil, go_sem, Int.reduceTMod, Int.reduceTDiv, Int.reduceDiv, Int.reduceMod, Int.reduceAdd, Int.reduceSub, Int.reduceMul, Int.reduceNeg, Int.reducePow, Int.reduceEq, ↓reduceIte, Nat.reduceEqDiff, Nat.reduceAdd, Nat.reduceMul, Nat.reduceLeDiff, Nat.reduceSub, Nat.reduceLT, Int.reduceToNat, Int.reduceLT, Int.reduceLE, reduceCtorEq]
      exact qo
  · obtain ⟨e, M, N⟩ := s
    obtain ⟨q15, q14, q13, q1, qn, qm, qo⟩ := hs
    simp only at q15 q14 q13 q1 qn qm qo
    have c2 : ((L.length : Int) < (L.length : Int)) = False := eq_false (by omega)
    have hxl := xAll_len L y hL L.length
    try simp only [r31_0, r31_1, r31_2, r31_3, r31_4, r31_5, r31_6, r31_7, r31_8, r31_9, r31_10, r31_11, r31_12, r31_13, r31_14, r31_15, r31_16, r31_17, c31, F31, l31_1, q15, q14, c2, go_sem, Int.reduceTMod, Int.reduceTDiv, Int.reduceDiv, Int.reduceMod, Int.reduceAdd, Int.reduceSub, Int.reduceMul, Int.reduceNeg, Int.reducePow, Int.reduceEq, ↓reduceIte, Nat.reduceEqDiff, Nat.reduceAdd, Nat.reduceMul, Nat.reduceLeDiff, Nat.reduceSub, Nat.reduceLT, Int.reduceToNat, Int.reduceLT, Int.reduceLE, reduceCtorEq]
    repeat' ((first | refine FK_split (fun h_ => ?_) (fun h_ => ?_) | refine GK_split (fun h_ => ?_) (fun h_ => ?_) | refine ite_both (fun h_ => ?_) (fun h_ => ?_)) <;> (try simp only [decide_eq_true_eq, decide_eq_false_iff_not, Bool.not_true, Bool.not_false, Bool.not_eq_true', Bool.not_eq_false', Bool.not_eq_eq_eq_not, Decidable.not_not] at h_) <;> (try simp only [r31_0, r31_1, r31_2, r31_3, r31_4, r31_5, r31_6, r31_7, r31_8, r31_9, r31_10, r31_11, r31_12, r31_13, r31_14, r31_15, r31_16, r31_17, c31, F31, l31_1, q15, q14, c2, h_, go_sem, Int.reduceTMod, Int.reduceTDiv, Int.reduceDiv, Int.reduceMod, Int.reduceAdd, Int.reduceSub, Int.reduceMul, Int.reduceNeg, Int.reducePow, Int.reduceEq, ↓reduceIte, Nat.reduceEqDiff, Nat.reduceAdd, Nat.reduceMul, Nat.reduceLeDiff, Nat.reduceSub, Nat.reduceLT, Int.reduceToNat, Int.reduceLT, Int.reduceLE, reduceCtorEq]))
    refine RK_callw ?_
    simp only [go_sem, Int.reduceTMod, Int.reduceTDiv, Int.reduceDiv, Int.reduceMod, Int.reduceAdd, Int.reduceSub, Int.reduceMul, Int.reduceNeg, Int.reducePow, Int.reduceEq, ↓reduceIte, Nat.reduceEqDiff, Nat.reduceAdd, Nat.reduceMul, Nat.reduceLeDiff, Nat.reduceSub, Nat.reduceLT, Int.reduceToNat, Int.reduceLT, Int.reduceLE, reduceCtorEq]
    refine Fn.mono (w_sort (e 5) (xAll L y L.length) n M N qo (by omega)) ?_
    rintro r' m' n' ⟨rfl, h1, h2⟩
    have hfr : ∀ id, id < n → m' id = m id := fun id hid => by
      rw [h2 id (fun h => by have := qo.sidge h; omega)]
      exact qm id hid
    try simp only [r31_0, r31_1, r31_2, r31_3, r31_4, r31_5, r31_6, r31_7, r31_8, r31_9, r31_10, r31_11, r31_12, r31_13, r31_14, r31_15, r31_16, r31_17, c31, F31, go_sem, Int.reduceTMod, Int.reduceTDiv, Int.reduceDiv, Int.reduceMod, Int.reduceAdd, Int.reduceSub, Int.reduceMul, Int.reduceNeg, Int.reducePow, Int.reduceEq, ↓reduceIte, Nat.reduceEqDiff, Nat.reduceAdd, Nat.reduceMul, Nat.reduceLeDiff, Nat.reduceSub, Nat.reduceLT, Int.reduceToNat, Int.reduceLT, Int.reduceLE, reduceCtorEq]
    repeat' ((first | refine FK_split (fun h_ => ?_) (fun h_ => ?_) | refine GK_split (fun h_ => ?_) (fun h_ => ?_) | refine ite_both (fun h_ => ?_) (fun h_ => ?_)) <;> (try simp only [decide_eq_true_eq, decide_eq_false_iff_not, Bool.not_true, Bool.not_false, Bool.not_eq_true', Bool.not_eq_false', Bool.not_eq_eq_eq_not, Decidable.not_not] at h_) <;> (try simp only [r31_0, r31_1, r31_2, r31_3, r31_4, r31_5, r31_6, r31_7, r31_8, r31_9, r31_10, r31_11, r31_12, r31_13, r31_14, r31_15, r31_16, r31_17, c31, F31, h_, go_sem, Int.reduceTMod, Int.reduceTDiv, Int.reduceDiv, Int.reduceMod, Int.reduceAdd, Int.reduceSub, Int.reduceMul, Int.reduceNeg, Int.reducePow, Int.reduceEq, ↓reduceIte, Nat.reduceEqDiff, Nat.reduceAdd, Nat.reduceMul, Nat.reduceLeDiff, Nat.reduceSub, Nat.reduceLT, Int.reduceToNat, Int.reduceLT, Int.reduceLE, reduceCtorEq]))
    exact ⟨qn, h1, hfr⟩
  · simp only [go_sem, Int.reduceTMod, Int.reduceTDiv, Int.reduceDiv, Int.reduceMod, Int.reduceAdd, Int.reduceSub, Int.reduceMul, Int.reduceNeg, Int.reducePow, Int.reduceEq, ↓reduceIte, Nat.reduceEqDiff, Nat.reduceAdd, Nat.reduceMul, Nat.reduceLeDiff, Nat.reduceSub, Nat.reduceLT, Int.reduceToNat, Int.reduceLT, Int.reduceLE, reduceCtorEq]
  · simp only [go_sem, Int.reduceTMod, Int.reduceTDiv, Int.reduceDiv, Int.reduceMod, Int.reduceAdd, Int.reduceSub, Int.reduceMul, Int.reduceNeg, Int.reducePow, Int.reduceEq, ↓reduceIte, Nat.reduceEqDiff, Nat.reduceAdd, Nat.reduceMul, Nat.reduceLeDiff, Nat.reduceSub, Nat.reduceLT, Int.reduceToNat, Int.reduceLT, Int.reduceLE, reduceCtorEq]
  · simp only [go_sem, Int.reduceTMod, Int.reduceTDiv, Int.reduceDiv, Int.reduceMod, Int.reduceAdd, Int.reduceSub, Int.reduceMul, Int.reduceNeg, Int.reducePow, Int.reduceEq, ↓reduceIte, Nat.reduceEqDiff, Nat.reduceAdd, Nat.reduceMul, Nat.reduceLeDiff, Nat.reduceSub, Nat.reduceLT, Int.reduceToNat, Int.reduceLT, Int.reduceLE, reduceCtorEq]
  · simp only [go_sem, Int.reduceTMod, Int.reduceTDiv, Int.reduceDiv, Int.reduceMod, Int.reduceAdd, Int.reduceSub, Int.reduceMul, Int.reduceNeg, Int.reducePow, Int.reduceEq, ↓reduceIte, Nat.reduceEqDiff, Nat.reduceAdd, Nat.reduceMul, Nat.reduceLeDiff, Nat.reduceSub, Nat.reduceLT, Int.reduceToNat, Int.reduceLT, Int.reduceLE, reduceCtorEq]
  · exact Nat.le_refl _
  · exact fun _ _ => rfl
  · simp only [xAll, go_sem, Int.reduceTMod, Int.reduceTDiv, Int.reduceDiv, Int.reduceMod, Int.reduceAdd, Int.reduceSub, Int.reduceMul, Int.reduceNeg, Int.reducePow, Int.reduceEq, ↓reduceIte, Nat.reduceEqDiff, Nat.reduceAdd, Nat.reduceMul, Nat.reduceLeDiff, Nat.reduceSub, Nat.reduceLT, Int.reduceToNat, Int.reduceLT, Int.reduceLE, reduceCtorEq]
    exact OL.nil

/- Are all points in room, and is a window right: the program's, walked. Conditions: those that each theorem names. -/
open Go Go.Proofs
set_option linter.unusedSimpArgs false
set_option linter.unusedVariables false

theorem v_bad1 (p : Pt) (m : Mem) (n : Nat) : callF TA 27 [.agg [I p.x, I p.y]] m n = some (RB (!inP p)) := by
  refine callF_of (Fn_ofK (fn := F27) rfl (by simp [F27]) ?_)
  try simp only [r27_0, r27_1, c27, F27, v_PIn, go_sem, Int.reduceTMod, Int.reduceTDiv, Int.reduceDiv, Int.reduceMod, Int.reduceAdd, Int.reduceSub, Int.reduceMul, Int.reduceNeg, Int.reducePow, Int.reduceEq, ↓reduceIte, Nat.reduceEqDiff, Nat.reduceAdd, Nat.reduceMul, Nat.reduceLeDiff, Nat.reduceSub, Nat.reduceLT, Int.reduceToNat, Int.reduceLT, Int.reduceLE, reduceCtorEq]
  repeat' ((first | refine FK_split (fun h_ => ?_) (fun h_ => ?_) | refine GK_split (fun h_ => ?_) (fun h_ => ?_) | refine ite_both (fun h_ => ?_) (fun h_ => ?_)) <;> (try simp only [decide_eq_true_eq, decide_eq_false_iff_not, Bool.not_true, Bool.not_false, Bool.not_eq_true', Bool.not_eq_false', Bool.not_eq_eq_eq_not, Decidable.not_not] at h_) <;> (try simp only [r27_0, r27_1, c27, F27, v_PIn, h_, go_sem, Int.reduceTMod, Int.reduceTDiv, Int.reduceDiv, Int.reduceMod, Int.reduceAdd, Int.reduceSub, Int.reduceMul, Int.reduceNeg, Int.reducePow, Int.reduceEq, ↓reduceIte, Nat.reduceEqDiff, Nat.reduceAdd, Nat.reduceMul, Nat.reduceLeDiff, Nat.reduceSub, Nat.reduceLT, Int.reduceToNat, Int.reduceLT, Int.reduceLE, reduceCtorEq]))
theorem w_Idx1 (r : Reg) (l : List Pt) (m : Mem) (n : Nat) (hr : RPe m n r l) (hl : l.length ≤ 1000000) :
    Fn TA 40 [r, .one (.clo 27 [])] m n (fun r' _ _ => ∃ k : Int, r' = RI k ∧ (0 ≤ k ↔ l.all inP = false)) := by
  refine Fn_ofK (fn := F40) rfl (by simp [F40]) ?_
  have hlen := hr.len
  try simp only [r40_0, r40_1, r40_2, r40_3, r40_4, r40_5, r40_6, r40_7, c40, F40, hlen, go_sem, Int.reduceTMod, Int.reduceTDiv, Int.reduceDiv, Int.reduceMod, Int.reduceAdd, Int.reduceSub, Int.reduceMul, Int.reduceNeg, Int.reducePow, Int.reduceEq, ↓reduceIte, Nat.reduceEqDiff, Nat.reduceAdd, Nat.reduceMul, Nat.reduceLeDiff, Nat.reduceSub, Nat.reduceLT, Int.reduceToNat, Int.reduceLT, Int.reduceLE, reduceCtorEq]
  repeat' ((first | refine FK_split (fun h_ => ?_) (fun h_ => ?_) | refine GK_split (fun h_ => ?_) (fun h_ => ?_) | refine ite_both (fun h_ => ?_) (fun h_ => ?_)) <;> (try simp only [decide_eq_true_eq, decide_eq_false_iff_not, Bool.not_true, Bool.not_false, Bool.not_eq_true', Bool.not_eq_false', Bool.not_eq_eq_eq_not, Decidable.not_not] at h_) <;> (try simp only [r40_0, r40_1, r40_2, r40_3, r40_4, r40_5, r40_6, r40_7, c40, F40, hlen, h_, go_sem, Int.reduceTMod, Int.reduceTDiv, Int.reduceDiv, Int.reduceMod, Int.reduceAdd, Int.reduceSub, Int.reduceMul, Int.reduceNeg, Int.reducePow, Int.reduceEq, ↓reduceIte, Nat.reduceEqDiff, Nat.reduceAdd, Nat.reduceMul, Nat.reduceLeDiff, Nat.reduceSub, Nat.reduceLT, Int.reduceToNat, Int.reduceLT, Int.reduceLE, reduceCtorEq]))
  refine XK_iter (inv := fun i t => t.e 8 = RI i ∧ t.e 7 = RI l.length ∧ t.e 0 = r ∧ t.e 1 = .one (.clo 27 []) ∧ t.n = n ∧ t.m = m ∧ ∀ (j : Nat) (p : Pt), j < i → l[j]? = some p → inP p = true) l.length
    (fun K _ => ⟨fun i hi t ht next => ?_, fun t ht => ?_⟩) 0 (by omega) _ ⟨?_, ?_, ?_, ?_, ?_, ?_, ?_⟩
  · obtain ⟨e, M, N⟩ := t
    obtain ⟨q8, q7, q0, q1, qn, qm, qa⟩ := ht
    simp only at q8 q7 q0 q1 qn qm qa
    subst qn
    subst qm
    have hcR : RPt M N r l := hr.resolve_right (fun h => by obtain ⟨a, _, h2⟩ := h; rw [h2] at hi; simp at hi)
    have hp : l[i]? = some l[i] := List.getElem?_eq_getElem hi
    obtain ⟨id, off, cap, hr1, hid, hrd⟩ := hcR.at cs2 hp
    have vb := v_bad1 l[i]
    have hmem := List.getElem_mem hi
    generalize l[i] = p at *
    have c2 : ((i : Int) < (l.length : Int)) = True := eq_true (by omega)
    have c3 : (0 ≤ (i : Int)) = True := eq_true (by omega)
    have c7 : IntKind.i64.wrap ((i : Int) + 1) = ((i + 1 : Nat) : Int) := wr_nat (by omega)
    have q0' := q0
    rw [hr1] at q0'
    cases hb : inP p with
    | false =>
      rw [hb] at vb
      try simp only [r40_0, r40_1, r40_2, r40_3, r40_4, r40_5, r40_6, r40_7, c40, F40, l40_0, q8, q7, q0', q1, c2, c3, c7, hrd, vb, Int.toNat_natCast, go_sem, Int.reduceTMod, Int.reduceTDiv, Int.reduceDiv, Int.reduceMod, Int.reduceAdd, Int.reduceSub, Int.reduceMul, Int.reduceNeg, Int.reducePow, Int.reduceEq, ↓reduceIte, Nat.reduceEqDiff, Nat.reduceAdd, Nat.reduceMul, Nat.reduceLeDiff, Nat.reduceSub, Nat.reduceLT, Int.reduceToNat, Int.reduceLT, Int.reduceLE, reduceCtorEq]
      repeat' ((first | refine FK_split (fun h_ => ?_) (fun h_ => ?_) | refine GK_split (fun h_ => ?_) (fun h_ => ?_) | refine ite_both (fun h_ => ?_) (fun h_ => ?_)) <;> (try simp only [decide_eq_true_eq, decide_eq_false_iff_not, Bool.not_true, Bool.not_false, Bool.not_eq_true', Bool.not_eq_false', Bool.not_eq_eq_eq_not, Decidable.not_not] at h_) <;> (try simp only [r40_0, r40_1, r40_2, r40_3, r40_4, r40_5, r40_6, r40_7, c40, F40, l40_0, q8, q7, q0', q1, c2, c3, c7, hrd, vb, Int.toNat_natCast, h_, go_sem, Int.reduceTMod, Int.reduceTDiv, Int.reduceDiv, Int.reduceMod, Int.reduceAdd, Int.reduceSub, Int.reduceMul, Int.reduceNeg, Int.reducePow, Int.reduceEq, ↓reduceIte, Nat.reduceEqDiff, Nat.reduceAdd, Nat.reduceMul, Nat.reduceLeDiff, Nat.reduceSub, Nat.reduceLT, Int.reduceToNat, Int.reduceLT, Int.reduceLE, reduceCtorEq]))
      refine ⟨i, rfl, fun _ => ?_, fun _ => by omega⟩
      rw [List.all_eq_false]
      exact ⟨p, hmem, by simp [hb]⟩
    | true =>
      rw [hb] at vb
      try simp only [r40_0, r40_1, r40_2, r40_3, r40_4, r40_5, r40_6, r40_7, c40, F40, l40_0, q8, q7, q0', q1, c2, c3, c7, hrd, vb, Int.toNat_natCast, go_sem, Int.reduceTMod, Int.reduceTDiv, Int.reduceDiv, Int.reduceMod, Int.reduceAdd, Int.reduceSub, Int.reduceMul, Int.reduceNeg, Int.reducePow, Int.reduceEq, ↓reduceIte, Nat.reduceEqDiff, Nat.reduceAdd, Nat.reduceMul, Nat.reduceLeDiff, Nat.reduceSub, Nat.reduceLT, Int.reduceToNat, Int.reduceLT, Int.reduceLE, reduceCtorEq]
      repeat' ((first | refine FK_split (fun h_ => ?_) (fun h_ => ?_) | refine GK_split (fun h_ => ?_) (fun h_ => ?_) | refine ite_both (fun h_ => ?_) (fun h_ => ?_)) <;> (try simp only [decide_eq_true_eq, decide_eq_false_iff_not, Bool.not_true, Bool.not_false, Bool.not_eq_true', Bool.not_eq_false', Bool.not_eq_eq_eq_not, Decidable.not_not] at h_) <;> (try simp only [r40_0, r40_1, r40_2, r40_3, r40_4, r40_5, r40_6, r40_7, c40, F40, l40_0, q8, q7, q0', q1, c2, c3, c7, hrd, vb, Int.toNat_natCast, h_, go_sem, Int.reduceTMod, Int.reduceTDiv, Int.reduceDiv, Int.reduceMod, Int.reduceAdd, Int.reduceSub, Int.reduceMul, Int.reduceNeg, Int.reducePow, Int.reduceEq, ↓reduceIte, Nat.reduceEqDiff, Nat.reduceAdd, Nat.reduceMul, Nat.reduceLeDiff, Nat.reduceSub, Nat.reduceLT, Int.reduceToNat, Int.reduceLT, Int.reduceLE, reduceCtorEq]))
      refine next _ ⟨?_, ?_, ?_, ?_, ?_, ?_, ?_⟩
      · simp only [go_sem, Int.reduceTMod, Int.reduceTDiv, Int.reduceDiv, Int.reduceMod, Int.reduceAdd, Int.reduceSub, Int.reduceMul, Int.reduceNeg, Int.reducePow, Int.reduceEq, ↓reduceIte, Nat.reduceEqDiff, Nat.reduceAdd, Nat.reduceMul, Nat.reduceLeDiff, Nat.reduceSub, Nat.reduceLT, Int.reduceToNat, Int.reduceLT, Int.reduceLE, reduceCtorEq]
      · simp only [q7, go_sem, Int.reduceTMod, Int.reduceTDiv, Int.reduceDiv, Int.reduceMod, Int.reduceAdd, Int.reduceSub, Int.reduceMul, Int.reduceNeg, Int.reducePow, Int.reduceEq, ↓reduceIte, Nat.reduceEqDiff, Nat.reduceAdd, Nat.reduceMul, Nat.reduceLeDiff, Nat.reduceSub, Nat.reduceLT, Int.reduceToNat, Int.reduceLT, Int.reduceLE, reduceCtorEq]
      · simp only [q0, hr1, go_sem, Int.reduceTMod, Int.reduceTDiv, Int.reduceDiv, Int.reduceMod, Int.reduceAdd, Int.reduceSub, Int.reduceMul, Int.reduceNeg, Int.reducePow, Int.reduceEq, ↓reduceIte, Nat.reduceEqDiff, Nat.reduceAdd, Nat.reduceMul, Nat.reduceLeDiff, Nat.reduceSub, Nat.reduceLT, Int.reduceToNat, Int.reduceLT, Int.reduceLE, reduceCtorEq]
      · simp only [q1, go_sem, Int.reduceTMod, Int.reduceTDiv, Int.reduceDiv, Int.reduceMod, Int.reduceAdd, Int.reduceSub, Int.reduceMul, Int.reduceNeg, Int.reducePow, Int.reduceEq, ↓reduceIte, Nat.reduceEqDiff, Nat.reduceAdd, Nat.reduceMul, Nat.reduceLeDiff, Nat.reduceSub, Nat.reduceLT, Int.reduceToNat, Int.reduceLT, Int.reduceLE, reduceCtorEq]
      · rfl
      · rfl
      · intro j p' hj hp'
        by_cases e : j = i
        · subst e
          rw [hp] at hp'
          cases hp'
          exact hb
        · exact qa j p' (by omega) hp'
  · obtain ⟨e, M, N⟩ := t
    obtain ⟨q8, q7, q0, q1, qn, qm, qa⟩ := ht
    simp only at q8 q7 q0 q1 qn qm qa
    have c2 : ((l.length : Int) < (l.length : Int)) = False := eq_false (by omega)
    have hall : l.all inP = true := by
      rw [List.all_eq_true]
      intro p hp
      obtain ⟨j, hj, e⟩ := List.getElem_of_mem hp
      exact qa j p hj (by rw [List.getElem?_eq_getElem hj, e])
    try simp only [r40_0, r40_1, r40_2, r40_3, r40_4, r40_5, r40_6, r40_7, c40, F40, l40_0, q8, q7, c2, go_sem, Int.reduceTMod, Int.reduceTDiv, Int.reduceDiv, Int.reduceMod, Int.reduceAdd, Int.reduceSub, Int.reduceMul, Int.reduceNeg, Int.reducePow, Int.reduceEq, ↓reduceIte, Nat.reduceEqDiff, Nat.reduceAdd, Nat.reduceMul, Nat.reduceLeDiff, Nat.reduceSub, Nat.reduceLT, Int.reduceToNat, Int.reduceLT, Int.reduceLE, reduceCtorEq]
    repeat' ((first | refine FK_split (fun h_ => ?_) (fun h_ => ?_) | refine GK_split (fun h_ => ?_) (fun h_ => ?_) | refine ite_both (fun h_ => ?_) (fun h_ => ?_)) <;> (try simp only [decide_eq_true_eq, decide_eq_false_iff_not, Bool.not_true, Bool.not_false, Bool.not_eq_true', Bool.not_eq_false', Bool.not_eq_eq_eq_not, Decidable.not_not] at h_) <;> (try simp only [r40_0, r40_1, r40_2, r40_3, r40_4, r40_5, r40_6, r40_7, c40, F40, l40_0, q8, q7, c2, h_, go_sem, Int.reduceTMod, Int.reduceTDiv, Int.reduceDiv, Int.reduceMod, Int.reduceAdd, Int.reduceSub, Int.reduceMul, Int.reduceNeg, Int.reducePow, Int.reduceEq, ↓reduceIte, Nat.reduceEqDiff, Nat.reduceAdd, Nat.reduceMul, Nat.reduceLeDiff, Nat.reduceSub, Nat.reduceLT, Int.reduceToNat, Int.reduceLT, Int.reduceLE, reduceCtorEq]))
    exact ⟨-1, rfl, fun h => by omega, fun h => by rw [hall] at h; cases h⟩
  · simp only [go_sem, Int.reduceTMod, Int.reduceTDiv, Int.reduceDiv, Int.reduceMod, Int.reduceAdd, Int.reduceSub, Int.reduceMul, Int.reduceNeg, Int.reducePow, Int.reduceEq, ↓reduceIte, Nat.reduceEqDiff, Nat.reduceAdd, Nat.reduceMul, Nat.reduceLeDiff, Nat.reduceSub, Nat.reduceLT, Int.reduceToNat, Int.reduceLT, Int.reduceLE, reduceCtorEq]
  · simp only [go_sem, Int.reduceTMod, Int.reduceTDiv, Int.reduceDiv, Int.reduceMod, Int.reduceAdd, Int.reduceSub, Int.reduceMul, Int.reduceNeg, Int.reducePow, Int.reduceEq, ↓reduceIte, Nat.reduceEqDiff, Nat.reduceAdd, Nat.reduceMul, Nat.reduceLeDiff, Nat.reduceSub, Nat.reduceLT, Int.reduceToNat, Int.reduceLT, Int.reduceLE, reduceCtorEq]
  · simp only [go_sem, Int.reduceTMod, Int.reduceTDiv, Int.reduceDiv, Int.reduceMod, Int.reduceAdd, Int.reduceSub, Int.reduceMul, Int.reduceNeg, Int.reducePow, Int.reduceEq, ↓reduceIte, Nat.reduceEqDiff, Nat.reduceAdd, Nat.reduceMul, Nat.reduceLeDiff, Nat.reduceSub, Nat.reduceLT, Int.reduceToNat, Int.reduceLT, Int.reduceLE, reduceCtorEq]
  · simp only [go_sem, Int.reduceTMod, Int.reduceTDiv, Int.reduceDiv, Int.reduceMod, Int.reduceAdd, Int.reduceSub, Int.reduceMul, Int.reduceNeg, Int.reducePow, Int.reduceEq, ↓reduceIte, Nat.reduceEqDiff, Nat.reduceAdd, Nat.reduceMul, Nat.reduceLeDiff, Nat.reduceSub, Nat.reduceLT, Int.reduceToNat, Int.reduceLT, Int.reduceLE, reduceCtorEq]
  · rfl
  · rfl
  · intro j p hj; omega
theorem v_Cont1 (r : Reg) (l : List Pt) (m : Mem) (n : Nat) (hr : RPe m n r l) (hl : l.length ≤ 1000000) :
    callF TA 26 [r, .one (.clo 27 [])] m n = some (RB (!l.all inP)) := by
  refine callF_of (Fn_ofK (fn := F26) rfl (by simp [F26]) ?_)
  obtain ⟨_, hv, k, rfl, hk⟩ := callF_ex (w_Idx1 r l (frz m) n hr.frz hl)
  cases hb : l.all inP with
  | true =>
    have c : (0 ≤ k) = False := eq_false (fun h => by have := hk.1 h; rw [hb] at this; cases this)
    try simp only [r26_0, r26_1, c26, F26, hv, c, go_sem, Int.reduceTMod, Int.reduceTDiv, Int.reduceDiv, Int.reduceMod, Int.reduceAdd, Int.reduceSub, Int.reduceMul, Int.reduceNeg, Int.reducePow, Int.reduceEq, ↓reduceIte, Nat.reduceEqDiff, Nat.reduceAdd, Nat.reduceMul, Nat.reduceLeDiff, Nat.reduceSub, Nat.reduceLT, Int.reduceToNat, Int.reduceLT, Int.reduceLE, reduceCtorEq]
    repeat' ((first | refine FK_split (fun h_ => ?_) (fun h_ => ?_) | refine GK_split (fun h_ => ?_) (fun h_ => ?_) | refine ite_both (fun h_ => ?_) (fun h_ => ?_)) <;> (try simp only [decide_eq_true_eq, decide_eq_false_iff_not, Bool.not_true, Bool.not_false, Bool.not_eq_true', Bool.not_eq_false', Bool.not_eq_eq_eq_not, Decidable.not_not] at h_) <;> (try simp only [r26_0, r26_1, c26, F26, hv, c, h_, go_sem, Int.reduceTMod, Int.reduceTDiv, Int.reduceDiv, Int.reduceMod, Int.reduceAdd, Int.reduceSub, Int.reduceMul, Int.reduceNeg, Int.reducePow, Int.reduceEq, ↓reduceIte, Nat.reduceEqDiff, Nat.reduceAdd, Nat.reduceMul, Nat.reduceLeDiff, Nat.reduceSub, Nat.reduceLT, Int.reduceToNat, Int.reduceLT, Int.reduceLE, reduceCtorEq]))
  | false =>
    have c : (0 ≤ k) = True := eq_true (hk.2 hb)
    try simp only [r26_0, r26_1, c26, F26, hv, c, go_sem, Int.reduceTMod, Int.reduceTDiv, Int.reduceDiv, Int.reduceMod, Int.reduceAdd, Int.reduceSub, Int.reduceMul, Int.reduceNeg, Int.reducePow, Int.reduceEq, ↓reduceIte, Nat.reduceEqDiff, Nat.reduceAdd, Nat.reduceMul, Nat.reduceLeDiff, Nat.reduceSub, Nat.reduceLT, Int.reduceToNat, Int.reduceLT, Int.reduceLE, reduceCtorEq]
    repeat' ((first | refine FK_split (fun h_ => ?_) (fun h_ => ?_) | refine GK_split (fun h_ => ?_) (fun h_ => ?_) | refine ite_both (fun h_ => ?_) (fun h_ => ?_)) <;> (try simp only [decide_eq_true_eq, decide_eq_false_iff_not, Bool.not_true, Bool.not_false, Bool.not_eq_true', Bool.not_eq_false', Bool.not_eq_eq_eq_not, Decidable.not_not] at h_) <;> (try simp only [r26_0, r26_1, c26, F26, hv, c, h_, go_sem, Int.reduceTMod, Int.reduceTDiv, Int.reduceDiv, Int.reduceMod, Int.reduceAdd, Int.reduceSub, Int.reduceMul, Int.reduceNeg, Int.reducePow, Int.reduceEq, ↓reduceIte, Nat.reduceEqDiff, Nat.reduceAdd, Nat.reduceMul, Nat.reduceLeDiff, Nat.reduceSub, Nat.reduceLT, Int.reduceToNat, Int.reduceLT, Int.reduceLE, reduceCtorEq]))
theorem v_bad (r : Reg) (l : List Pt) (m : Mem) (n : Nat) (hr : RPe m n r l) (hl : l.length ≤ 1000000) : callF TA 25 [r] m n = some (RB (!l.all inP)) := by
  refine callF_of (Fn_ofK (fn := F25) rfl (by simp [F25]) ?_)
  have hv := v_Cont1 r l (frz m) n hr.frz hl
  try simp only [r25_0, r25_1, c25, F25, hv, go_sem, Int.reduceTMod, Int.reduceTDiv, Int.reduceDiv, Int.reduceMod, Int.reduceAdd, Int.reduceSub, Int.reduceMul, Int.reduceNeg, Int.reducePow, Int.reduceEq, ↓reduceIte, Nat.reduceEqDiff, Nat.reduceAdd, Nat.reduceMul, Nat.reduceLeDiff, Nat.reduceSub, Nat.reduceLT, Int.reduceToNat, Int.reduceLT, Int.reduceLE, reduceCtorEq]
  repeat' ((first | refine FK_split (fun h_ => ?_) (fun h_ => ?_) | refine GK_split (fun h_ => ?_) (fun h_ => ?_) | refine ite_both (fun h_ => ?_) (fun h_ => ?_)) <;> (try simp only [decide_eq_true_eq, decide_eq_false_iff_not, Bool.not_true, Bool.not_false, Bool.not_eq_true', Bool.not_eq_false', Bool.not_eq_eq_eq_not, Decidable.not_not] at h_) <;> (try simp only [r25_0, r25_1, c25, F25, hv, h_, go_sem, Int.reduceTMod, Int.reduceTDiv, Int.reduceDiv, Int.reduceMod, Int.reduceAdd, Int.reduceSub, Int.reduceMul, Int.reduceNeg, Int.reducePow, Int.reduceEq, ↓reduceIte, Nat.reduceEqDiff, Nat.reduceAdd, Nat.reduceMul, Nat.reduceLeDiff, Nat.reduceSub, Nat.reduceLT, Int.reduceToNat, Int.reduceLT, Int.reduceLE, reduceCtorEq]))
theorem w_Idx2 (r : Reg) (L : List (List Pt)) (m : Mem) (n : Nat) (hr : RPP m n r L) (hn : L.length ≤ 60) (hL : ∀ l ∈ L, l.length ≤ 20) :
    Fn TA 41 [r, .one (.clo 25 [])] m n (fun r' _ _ => ∃ k : Int, r' = RI k ∧ (0 ≤ k ↔ inLL L = false)) := by
  refine Fn_ofK (fn := F41) rfl (by simp [F41]) ?_
  have hlen := hr.len
  try simp only [r41_0, r41_1, r41_2, r41_3, r41_4, r41_5, r41_6, r41_7, c41, F41, hlen, go_sem, Int.reduceTMod, Int.reduceTDiv, Int.reduceDiv, Int.reduceMod, Int.reduceAdd, Int.reduceSub, Int.reduceMul, Int.reduceNeg, Int.reducePow, Int.reduceEq, ↓reduceIte, Nat.reduceEqDiff, Nat.reduceAdd, Nat.reduceMul, Nat.reduceLeDiff, Nat.reduceSub, Nat.reduceLT, Int.reduceToNat, Int.reduceLT, Int.reduceLE, reduceCtorEq]
  repeat' ((first | refine FK_split (fun h_ => ?_) (fun h_ => ?_) | refine GK_split (fun h_ => ?_) (fun h_ => ?_) | refine ite_both (fun h_ => ?_) (fun h_ => ?_)) <;> (try simp only [decide_eq_true_eq, decide_eq_false_iff_not, Bool.not_true, Bool.not_false, Bool.not_eq_true', Bool.not_eq_false', Bool.not_eq_eq_eq_not, Decidable.not_not] at h_) <;> (try simp only [r41_0, r41_1, r41_2, r41_3, r41_4, r41_5, r41_6, r41_7, c41, F41, hlen, h_, go_sem, Int.reduceTMod, Int.reduceTDiv, Int.reduceDiv, Int.reduceMod, Int.reduceAdd, Int.reduceSub, Int.reduceMul, Int.reduceNeg, Int.reducePow, Int.reduceEq, ↓reduceIte, Nat.reduceEqDiff, Nat.reduceAdd, Nat.reduceMul, Nat.reduceLeDiff, Nat.reduceSub, Nat.reduceLT, Int.reduceToNat, Int.reduceLT, Int.reduceLE, reduceCtorEq]))
  refine XK_iter (inv := fun i t => t.e 8 = RI i ∧ t.e 7 = RI L.length ∧ t.e 0 = r ∧ t.e 1 = .one (.clo 25 []) ∧ t.n = n ∧ t.m = m ∧ ∀ (j : Nat) (p : List Pt), j < i → L[j]? = some p → p.all inP = true) L.length
    (fun K _ => ⟨fun i hi t ht next => ?_, fun t ht => ?_⟩) 0 (by omega) _ ⟨?_, ?_, ?_, ?_, ?_, ?_, ?_⟩
  · obtain ⟨e, M, N⟩ := t
    obtain ⟨q8, q7, q0, q1, qn, qm, qa⟩ := ht
    simp only at q8 q7 q0 q1 qn qm qa
    subst qn
    subst qm
    have hp : L[i]? = some L[i] := List.getElem?_eq_getElem hi
    obtain ⟨id, off, cap, b, c0, hr1, hid, hb0, hbc, hc⟩ := hr.at hp
    have hmem := List.getElem_mem hi
    have vb := v_bad (.one c0) L[i] (frz M) N hc.frz (by have := hL _ hmem; omega)
    generalize L[i] = p at *
    have c2 : ((i : Int) < (L.length : Int)) = True := eq_true (by omega)
    have c3 : (0 ≤ (i : Int)) = True := eq_true (by omega)
    have c7 : IntKind.i64.wrap ((i : Int) + 1) = ((i + 1 : Nat) : Int) := wr_nat (by omega)
    have q0' := q0
    rw [hr1] at q0'
    cases hb : p.all inP with
    | false =>
      rw [hb] at vb
      try simp only [r41_0, r41_1, r41_2, r41_3, r41_4, r41_5, r41_6, r41_7, c41, F41, l41_0, q8, q7, q0', q1, c2, c3, c7, hb0, hbc, vb, Int.toNat_natCast, Nat.mul_one, go_sem, Int.reduceTMod, Int.reduceTDiv, Int.reduceDiv, Int.reduceMod, Int.reduceAdd, Int.reduceSub, Int.reduceMul, Int.reduceNeg, Int.reducePow, Int.reduceEq, ↓reduceIte, Nat.reduceEqDiff, Nat.reduceAdd, Nat.reduceMul, Nat.reduceLeDiff, Nat.reduceSub, Nat.reduceLT, Int.reduceToNat, Int.reduceLT, Int.reduceLE, reduceCtorEq]
      repeat' ((first | refine FK_split (fun h_ => ?_) (fun h_ => ?_) | refine GK_split (fun h_ => ?_) (fun h_ => ?_) | refine ite_both (fun h_ => ?_) (fun h_ => ?_)) <;> (try simp only [decide_eq_true_eq, decide_eq_false_iff_not, Bool.not_true, Bool.not_false, Bool.not_eq_true', Bool.not_eq_false', Bool.not_eq_eq_eq_not, Decidable.not_not] at h_) <;> (try simp only [r41_0, r41_1, r41_2, r41_3, r41_4, r41_5, r41_6, r41_7, c41, F41, l41_0, q8, q7, q0', q1, c2, c3, c7, hb0, hbc, vb, Int.toNat_natCast, Nat.mul_one, h_, go_sem, Int.reduceTMod, Int.reduceTDiv, Int.reduceDiv, Int.reduceMod, Int.reduceAdd, Int.reduceSub, Int.reduceMul, Int.reduceNeg, Int.reducePow, Int.reduceEq, ↓reduceIte, Nat.reduceEqDiff, Nat.reduceAdd, Nat.reduceMul, Nat.reduceLeDiff, Nat.reduceSub, Nat.reduceLT, Int.reduceToNat, Int.reduceLT, Int.reduceLE, reduceCtorEq]))
      refine ⟨i, rfl, fun _ => ?_, fun _ => by omega⟩
      unfold inLL
      rw [List.all_eq_false]
      exact ⟨p, hmem, by simp [hb]⟩
    | true =>
      rw [hb] at vb
      try simp only [r41_0, r41_1, r41_2, r41_3, r41_4, r41_5, r41_6, r41_7, c41, F41, l41_0, q8, q7, q0', q1, c2, c3, c7, hb0, hbc, vb, Int.toNat_natCast, Nat.mul_one, go_sem, Int.reduceTMod, Int.reduceTDiv, Int.reduceDiv, Int.reduceMod, Int.reduceAdd, Int.reduceSub, Int.reduceMul, Int.reduceNeg, Int.reducePow, Int.reduceEq, ↓reduceIte, Nat.reduceEqDiff, Nat.reduceAdd, Nat.reduceMul, Nat.reduceLeDiff, Nat.reduceSub, Nat.reduceLT, Int.reduceToNat, Int.reduceLT, Int.reduceLE, reduceCtorEq]
      repeat' ((first | refine FK_split (fun h_ => ?_) (fun h_ => ?_) | refine GK_split (fun h_ => ?_) (fun h_ => ?_) | refine ite_both (fun h_ => ?_) (fun h_ => ?_)) <;> (try simp only [decide_eq_true_eq, decide_eq_false_iff_not, Bool.not_true, Bool.not_false, Bool.not_eq_true', Bool.not_eq_false', Bool.not_eq_eq_eq_not, Decidable.not_not] at h_) <;> (try simp only [r41_0, r41_1, r41_2, r41_3, r41_4, r41_5, r41_6, r41_7, c41, F41, l41_0, q8, q7, q0', q1, c2, c3, c7, hb0, hbc, vb, Int.toNat_natCast, Nat.mul_one, h_, go_sem, Int.reduceTMod, Int.reduceTDiv, Int.reduceDiv, Int.reduceMod, Int.reduceAdd, Int.reduceSub, Int.reduceMul, Int.reduceNeg, Int.reducePow, Int.reduceEq, ↓reduceIte, Nat.reduceEqDiff, Nat.reduceAdd, Nat.reduceMul, Nat.reduceLeDiff, Nat.reduceSub, Nat.reduceLT, Int.reduceToNat, Int.reduceLT, Int.reduceLE, reduceCtorEq]))
      refine next _ ⟨?_, ?_, ?_, ?_, ?_, ?_, ?_⟩
      · simp only [go_sem, Int.reduceTMod, Int.reduceTDiv, Int.reduceDiv, Int.reduceMod, Int.reduceAdd, Int.reduceSub, Int.reduceMul, Int.reduceNeg, Int.reducePow, Int.reduceEq, ↓reduceIte, Nat.reduceEqDiff, Nat.reduceAdd, Nat.reduceMul, Nat.reduceLeDiff, Nat.reduceSub, Nat.reduceLT, Int.reduceToNat, Int.reduceLT, Int.reduceLE, reduceCtorEq]
      · simp only [q7, go_sem, Int.reduceTMod, Int.reduceTDiv, Int.reduceDiv, Int.reduceMod, Int.reduceAdd, Int.reduceSub, Int.reduceMul, Int.reduceNeg, Int.reducePow, Int.reduceEq, ↓reduceIte, Nat.reduceEqDiff, Nat.reduceAdd, Nat.reduceMul, Nat.reduceLeDiff, Nat.reduceSub, Nat.reduceLT, Int.reduceToNat, Int.reduceLT, Int.reduceLE, reduceCtorEq]
      · simp only [q0, hr1, go_sem, Int.reduceTMod, Int.reduceTDiv, Int.reduceDiv, Int.reduceMod, Int.reduceAdd, Int.reduceSub, Int.reduceMul, Int.reduceNeg, Int.reducePow, Int.reduceEq, ↓reduceIte, Nat.reduceEqDiff, Nat.reduceAdd, Nat.reduceMul, Nat.reduceLeDiff, Nat.reduceSub, Nat.reduceLT, Int.reduceToNat, Int.reduceLT, Int.reduceLE, reduceCtorEq]
      · simp only [q1, go_sem, Int.reduceTMod, Int.reduceTDiv, Int.reduceDiv, Int.reduceMod, Int.reduceAdd, Int.reduceSub, Int.reduceMul, Int.reduceNeg, Int.reducePow, Int.reduceEq, ↓reduceIte, Nat.reduceEqDiff, Nat.reduceAdd, Nat.reduceMul, Nat.reduceLeDiff, Nat.reduceSub, Nat.reduceLT, Int.reduceToNat, Int.reduceLT, Int.reduceLE, reduceCtorEq]
      · rfl
      · rfl
      · intro j p' hj hp'
        by_cases e : j = i
        · subst e
          rw [hp] at hp'
          cases hp'
          exact hb
        · exact qa j p' (by omega) hp'
  · obtain ⟨e, M, N⟩ := t
    obtain ⟨q8, q7, q0, q1, qn, qm, qa⟩ := ht
    simp only at q8 q7 q0 q1 qn qm qa
    have c2 : ((L.length : Int) < (L.length : Int)) = False := eq_false (by omega)
    have hall : inLL L = true := by
      unfold inLL
      rw [List.all_eq_true]
      intro p hp
      obtain ⟨j, hj, e⟩ := List.getElem_of_mem hp
      exact qa j p hj (by rw [List.getElem?_eq_getElem hj, e])
    try simp only [r41_0, r41_1, r41_2, r41_3, r41_4, r41_5, r41_6, r41_7, c41, F41, l41_0, q8, q7, c2, go_sem, Int.reduceTMod, Int.reduceTDiv, Int.reduceDiv, Int.reduceMod, Int.reduceAdd, Int.reduceSub, Int.reduceMul, Int.reduceNeg, Int.reducePow, Int.reduceEq, ↓reduceIte, Nat.reduceEqDiff, Nat.reduceAdd, Nat.reduceMul, Nat.reduceLeDiff, Nat.reduceSub, Nat.reduceLT, Int.reduceToNat, Int.reduceLT, Int.reduceLE, reduceCtorEq]
    repeat' ((first | refine FK_split (fun h_ => ?_) (fun h_ => ?_) | refine GK_split (fun h_ => ?_) (fun h_ => ?_) | refine ite_both (fun h_ => ?_) (fun h_ => ?_)) <;> (try simp only [decide_eq_true_eq, decide_eq_false_iff_not, Bool.not_true, Bool.not_false, Bool.not_eq_true', Bool.not_eq_false', Bool.not_eq_eq_eq_not, Decidable.not_not] at h_) <;> (try simp only [r41_0, r41_1, r41_2, r41_3, r41_4, r41_5, r41_6, r41_7, c41, F41, l41_0, q8, q7, c2, h_, go_sem, Int.reduceTMod, Int.reduceTDiv, Int.reduceDiv, Int.reduceMod, Int.reduceAdd, Int.reduceSub, Int.reduceMul, Int.reduceNeg, Int.reducePow, Int.reduceEq, ↓reduceIte, Nat.reduceEqDiff, Nat.reduceAdd, Nat.reduceMul, Nat.reduceLeDiff, Nat.reduceSub, Nat.reduceLT, Int.reduceToNat, Int.reduceLT, Int.reduceLE, reduceCtorEq]))
    exact ⟨-1, rfl, fun h => by omega, fun h => by rw [hall] at h; cases h⟩
  · simp only [go_sem, Int.reduceTMod, Int.reduceTDiv, Int.reduceDiv, Int.reduceMod, Int.reduceAdd, Int.reduceSub, Int.reduceMul, Int.reduceNeg, Int.reducePow, Int.reduceEq, ↓reduceIte, Nat.reduceEqDiff, Nat.reduceAdd, Nat.reduceMul, Nat.reduceLeDiff, Nat.reduceSub, Nat.reduceLT, Int.reduceToNat, Int.reduceLT, Int.reduceLE, reduceCtorEq]
  · simp only [go_sem, Int.reduceTMod, Int.reduceTDiv, Int.reduceDiv, Int.reduceMod, Int.reduceAdd, Int.reduceSub, Int.reduceMul, Int.reduceNeg, Int.reducePow, Int.reduceEq, ↓reduceIte, Nat.reduceEqDiff, Nat.reduceAdd, Nat.reduceMul, Nat.reduceLeDiff, Nat.reduceSub, Nat.reduceLT, Int.reduceToNat, Int.reduceLT, Int.reduceLE, reduceCtorEq]
  · simp only [go_sem, Int.reduceTMod, Int.reduceTDiv, Int.reduceDiv, Int.reduceMod, Int.reduceAdd, Int.reduceSub, Int.reduceMul, Int.reduceNeg, Int.reducePow, Int.reduceEq, ↓reduceIte, Nat.reduceEqDiff, Nat.reduceAdd, Nat.reduceMul, Nat.reduceLeDiff, Nat.reduceSub, Nat.reduceLT, Int.reduceToNat, Int.reduceLT, Int.reduceLE, reduceCtorEq]
  · simp only [go_sem, Int.reduceTMod, Int.reduceTDiv, Int.reduceDiv, Int.reduceMod, Int.reduceAdd, Int.reduceSub, Int.reduceMul, Int.reduceNeg, Int.reducePow, Int.reduceEq, ↓reduceIte, Nat.reduceEqDiff, Nat.reduceAdd, Nat.reduceMul, Nat.reduceLeDiff, Nat.reduceSub, Nat.reduceLT, Int.reduceToNat, Int.reduceLT, Int.reduceLE, reduceCtorEq]
  · rfl
  · rfl
  · intro j p hj; omega
theorem v_Cont2 (r : Reg) (L : List (List Pt)) (m : Mem) (n : Nat) (hr : RPP m n r L) (hn : L.length ≤ 60) (hL : ∀ l ∈ L, l.length ≤ 20) :
    callF TA 30 [r, .one (.clo 25 [])] m n = some (RB (!inLL L)) := by
  refine callF_of (Fn_ofK (fn := F30) rfl (by simp [F30]) ?_)
  obtain ⟨_, hv, k, rfl, hk⟩ := callF_ex (w_Idx2 r L (frz m) n hr.frz hn hL)
  cases hb : inLL L with
  | true =>
    have c : (0 ≤ k) = False := eq_false (fun h => by have := hk.1 h; rw [hb] at this; cases this)
    try simp only [r30_0, r30_1, c30, F30, hv, c, go_sem, Int.reduceTMod, Int.reduceTDiv, Int.reduceDiv, Int.reduceMod, Int.reduceAdd, Int.reduceSub, Int.reduceMul, Int.reduceNeg, Int.reducePow, Int.reduceEq, ↓reduceIte, Nat.reduceEqDiff, Nat.reduceAdd, Nat.reduceMul, Nat.reduceLeDiff, Nat.reduceSub, Nat.reduceLT, Int.reduceToNat, Int.reduceLT, Int.reduceLE, reduceCtorEq]
    repeat' ((first | refine FK_split (fun h_ => ?_) (fun h_ => ?_) | refine GK_split (fun h_ => ?_) (fun h_ => ?_) | refine ite_both (fun h_ => ?_) (fun h_ => ?_)) <;> (try simp only [decide_eq_true_eq, decide_eq_false_iff_not, Bool.not_true, Bool.not_false, Bool.not_eq_true', Bool.not_eq_false', Bool.not_eq_eq_eq_not, Decidable.not_not] at h_) <;> (try simp only [r30_0, r30_1, c30, F30, hv, c, h_, go_sem, Int.reduceTMod, Int.reduceTDiv, Int.reduceDiv, Int.reduceMod, Int.reduceAdd, Int.reduceSub, Int.reduceMul, Int.reduceNeg, Int.reducePow, Int.reduceEq, ↓reduceIte, Nat.reduceEqDiff, Nat.reduceAdd, Nat.reduceMul, Nat.reduceLeDiff, Nat.reduceSub, Nat.reduceLT, Int.reduceToNat, Int.reduceLT, Int.reduceLE, reduceCtorEq]))
  | false =>
    have c : (0 ≤ k) = True := eq_true (hk.2 hb)
    try simp only [r30_0, r30_1, c30, F30, hv, c, go_sem, Int.reduceTMod, Int.reduceTDiv, Int.reduceDiv, Int.reduceMod, Int.reduceAdd, Int.reduceSub, Int.reduceMul, Int.reduceNeg, Int.reducePow, Int.reduceEq, ↓reduceIte, Nat.reduceEqDiff, Nat.reduceAdd, Nat.reduceMul, Nat.reduceLeDiff, Nat.reduceSub, Nat.reduceLT, Int.reduceToNat, Int.reduceLT, Int.reduceLE, reduceCtorEq]
    repeat' ((first | refine FK_split (fun h_ => ?_) (fun h_ => ?_) | refine GK_split (fun h_ => ?_) (fun h_ => ?_) | refine ite_both (fun h_ => ?_) (fun h_ => ?_)) <;> (try simp only [decide_eq_true_eq, decide_eq_false_iff_not, Bool.not_true, Bool.not_false, Bool.not_eq_true', Bool.not_eq_false', Bool.not_eq_eq_eq_not, Decidable.not_not] at h_) <;> (try simp only [r30_0, r30_1, c30, F30, hv, c, h_, go_sem, Int.reduceTMod, Int.reduceTDiv, Int.reduceDiv, Int.reduceMod, Int.reduceAdd, Int.reduceSub, Int.reduceMul, Int.reduceNeg, Int.reducePow, Int.reduceEq, ↓reduceIte, Nat.reduceEqDiff, Nat.reduceAdd, Nat.reduceMul, Nat.reduceLeDiff, Nat.reduceSub, Nat.reduceLT, Int.reduceToNat, Int.reduceLT, Int.reduceLE, reduceCtorEq]))
theorem v_Empty (x0 y0 x1 y1 : Int) (m : Mem) (n : Nat) : callF TA 33 [.agg [I x0, I y0, I x1, I y1]] m n = some (RB (decide (x1 ≤ x0) || decide (y1 ≤ y0))) := by
  refine callF_of (Fn_ofK (fn := F33) rfl (by simp [F33]) ?_)
  by_cases h1 : x1 ≤ x0
  · skip
    try simp only [r33_0, r33_1, c33, F33, h1, go_sem, Int.reduceTMod, Int.reduceTDiv, Int.reduceDiv, Int.reduceMod, Int.reduceAdd, Int.reduceSub, Int.reduceMul, Int.reduceNeg, Int.reducePow, Int.reduceEq, ↓reduceIte, Nat.reduceEqDiff, Nat.reduceAdd, Nat.reduceMul, Nat.reduceLeDiff, Nat.reduceSub, Nat.reduceLT, Int.reduceToNat, Int.reduceLT, Int.reduceLE, reduceCtorEq]
    repeat' ((first | refine FK_split (fun h_ => ?_) (fun h_ => ?_) | refine GK_split (fun h_ => ?_) (fun h_ => ?_) | refine ite_both (fun h_ => ?_) (fun h_ => ?_)) <;> (try simp only [decide_eq_true_eq, decide_eq_false_iff_not, Bool.not_true, Bool.not_false, Bool.not_eq_true', Bool.not_eq_false', Bool.not_eq_eq_eq_not, Decidable.not_not] at h_) <;> (try simp only [r33_0, r33_1, c33, F33, h1, h_, go_sem, Int.reduceTMod, Int.reduceTDiv, Int.reduceDiv, Int.reduceMod, Int.reduceAdd, Int.reduceSub, Int.reduceMul, Int.reduceNeg, Int.reducePow, Int.reduceEq, ↓reduceIte, Nat.reduceEqDiff, Nat.reduceAdd, Nat.reduceMul, Nat.reduceLeDiff, Nat.reduceSub, Nat.reduceLT, Int.reduceToNat, Int.reduceLT, Int.reduceLE, reduceCtorEq]))
  · by_cases h2 : y1 ≤ y0
    · skip
      try simp only [r33_0, r33_1, c33, F33, h1, h2, go_sem, Int.reduceTMod, Int.reduceTDiv, Int.reduceDiv, Int.reduceMod, Int.reduceAdd, Int.reduceSub, Int.reduceMul, Int.reduceNeg, Int.reducePow, Int.reduceEq, ↓reduceIte, Nat.reduceEqDiff, Nat.reduceAdd, Nat.reduceMul, Nat.reduceLeDiff, Nat.reduceSub, Nat.reduceLT, Int.reduceToNat, Int.reduceLT, Int.reduceLE, reduceCtorEq]
      repeat' ((first | refine FK_split (fun h_ => ?_) (fun h_ => ?_) | refine GK_split (fun h_ => ?_) (fun h_ => ?_) | refine ite_both (fun h_ => ?_) (fun h_ => ?_)) <;> (try simp only [decide_eq_true_eq, decide_eq_false_iff_not, Bool.not_true, Bool.not_false, Bool.not_eq_true', Bool.not_eq_false', Bool.not_eq_eq_eq_not, Decidable.not_not] at h_) <;> (try simp only [r33_0, r33_1, c33, F33, h1, h2, h_, go_sem, Int.reduceTMod, Int.reduceTDiv, Int.reduceDiv, Int.reduceMod, Int.reduceAdd, Int.reduceSub, Int.reduceMul, Int.reduceNeg, Int.reducePow, Int.reduceEq, ↓reduceIte, Nat.reduceEqDiff, Nat.reduceAdd, Nat.reduceMul, Nat.reduceLeDiff, Nat.reduceSub, Nat.reduceLT, Int.reduceToNat, Int.reduceLT, Int.reduceLE, reduceCtorEq]))
    · skip
      try simp only [r33_0, r33_1, c33, F33, h1, h2, go_sem, Int.reduceTMod, Int.reduceTDiv, Int.reduceDiv, Int.reduceMod, Int.reduceAdd, Int.reduceSub, Int.reduceMul, Int.reduceNeg, Int.reducePow, Int.reduceEq, ↓reduceIte, Nat.reduceEqDiff, Nat.reduceAdd, Nat.reduceMul, Nat.reduceLeDiff, Nat.reduceSub, Nat.reduceLT, Int.reduceToNat, Int.reduceLT, Int.reduceLE, reduceCtorEq]
      repeat' ((first | refine FK_split (fun h_ => ?_) (fun h_ => ?_) | refine GK_split (fun h_ => ?_) (fun h_ => ?_) | refine ite_both (fun h_ => ?_) (fun h_ => ?_)) <;> (try simp only [decide_eq_true_eq, decide_eq_false_iff_not, Bool.not_true, Bool.not_false, Bool.not_eq_true', Bool.not_eq_false', Bool.not_eq_eq_eq_not, Decidable.not_not] at h_) <;> (try simp only [r33_0, r33_1, c33, F33, h1, h2, h_, go_sem, Int.reduceTMod, Int.reduceTDiv, Int.reduceDiv, Int.reduceMod, Int.reduceAdd, Int.reduceSub, Int.reduceMul, Int.reduceNeg, Int.reducePow, Int.reduceEq, ↓reduceIte, Nat.reduceEqDiff, Nat.reduceAdd, Nat.reduceMul, Nat.reduceLeDiff, Nat.reduceSub, Nat.reduceLT, Int.reduceToNat, Int.reduceLT, Int.reduceLE, reduceCtorEq]))
theorem minI_2 (a b : Int) : minI a [.one (.sc (.int .i64 b))] = some (mnI a b) := by simp [minI, mnI]
theorem maxI_2 (a b : Int) : maxI a [.one (.sc (.int .i64 b))] = some (mxI a b) := by simp [maxI, mxI]
theorem mnI_min (a b : Int) : mnI a b = min a b := by unfold mnI; split <;> omega
theorem mxI_max (a b : Int) : mxI a b = max a b := by unfold mxI; split <;> omega
theorem v_right (x0 y0 x1 y1 : Int) (m : Mem) (n : Nat) : callF TA 29 [.agg [I x0, I y0, I x1, I y1]] m n = some (RB (decide (winP x0 y0 x1 y1))) := by
  refine callF_of (Fn_ofK (fn := F29) rfl (by simp [F29]) ?_)
  have vE := v_Empty x0 y0 x1 y1
  by_cases h1 : x1 ≤ x0 ∨ y1 ≤ y0
  · rw [decide_eq_false (fun h => by unfold winP at h; omega)]
    have e : (decide (x1 ≤ x0) || decide (y1 ≤ y0)) = true := by rcases h1 with h | h <;> simp [h]
    rw [e] at vE
    try simp only [r29_0, r29_1, c29, F29, vE, go_sem, Int.reduceTMod, Int.reduceTDiv, Int.reduceDiv, Int.reduceMod, Int.reduceAdd, Int.reduceSub, Int.reduceMul, Int.reduceNeg, Int.reducePow, Int.reduceEq, ↓reduceIte, Nat.reduceEqDiff, Nat.reduceAdd, Nat.reduceMul, Nat.reduceLeDiff, Nat.reduceSub, Nat.reduceLT, Int.reduceToNat, Int.reduceLT, Int.reduceLE, reduceCtorEq]
    repeat' ((first | refine FK_split (fun h_ => ?_) (fun h_ => ?_) | refine GK_split (fun h_ => ?_) (fun h_ => ?_) | refine ite_both (fun h_ => ?_) (fun h_ => ?_)) <;> (try simp only [decide_eq_true_eq, decide_eq_false_iff_not, Bool.not_true, Bool.not_false, Bool.not_eq_true', Bool.not_eq_false', Bool.not_eq_eq_eq_not, Decidable.not_not] at h_) <;> (try simp only [r29_0, r29_1, c29, F29, vE, h_, go_sem, Int.reduceTMod, Int.reduceTDiv, Int.reduceDiv, Int.reduceMod, Int.reduceAdd, Int.reduceSub, Int.reduceMul, Int.reduceNeg, Int.reducePow, Int.reduceEq, ↓reduceIte, Nat.reduceEqDiff, Nat.reduceAdd, Nat.reduceMul, Nat.reduceLeDiff, Nat.reduceSub, Nat.reduceLT, Int.reduceToNat, Int.reduceLT, Int.reduceLE, reduceCtorEq]))
  have e : (decide (x1 ≤ x0) || decide (y1 ≤ y0)) = false := by simp; omega
  rw [e] at vE
  by_cases h2 : -4194304 ≤ min x0 y0
  · by_cases h3 : max x1 y1 ≤ 4194304
    · have w1 : IntKind.i64.wrap (x1 - x0) = x1 - x0 := wr_eq (by omega) (by omega)
      have w2 : IntKind.i64.wrap (y1 - y0) = y1 - y0 := wr_eq (by omega) (by omega)
      by_cases h7 : x1 - x0 ≤ 256
      · by_cases h8 : y1 - y0 ≤ 256
        · rw [decide_eq_true (by unfold winP; omega)]
          try simp only [r29_0, r29_1, c29, F29, vE, minI_2, maxI_2, mnI_min, mxI_max, h2, h3, w1, w2, h7, h8, go_sem, Int.reduceTMod, Int.reduceTDiv, Int.reduceDiv, Int.reduceMod, Int.reduceAdd, Int.reduceSub, Int.reduceMul, Int.reduceNeg, Int.reducePow, Int.reduceEq, ↓reduceIte, Nat.reduceEqDiff, Nat.reduceAdd, Nat.reduceMul, Nat.reduceLeDiff, Nat.reduceSub, Nat.reduceLT, Int.reduceToNat, Int.reduceLT, Int.reduceLE, reduceCtorEq]
          repeat' ((first | refine FK_split (fun h_ => ?_) (fun h_ => ?_) | refine GK_split (fun h_ => ?_) (fun h_ => ?_) | refine ite_both (fun h_ => ?_) (fun h_ => ?_)) <;> (try simp only [decide_eq_true_eq, decide_eq_false_iff_not, Bool.not_true, Bool.not_false, Bool.not_eq_true', Bool.not_eq_false', Bool.not_eq_eq_eq_not, Decidable.not_not] at h_) <;> (try simp only [r29_0, r29_1, c29, F29, vE, minI_2, maxI_2, mnI_min, mxI_max, h2, h3, w1, w2, h7, h8, h_, go_sem, Int.reduceTMod, Int.reduceTDiv, Int.reduceDiv, Int.reduceMod, Int.reduceAdd, Int.reduceSub, Int.reduceMul, Int.reduceNeg, Int.reducePow, Int.reduceEq, ↓reduceIte, Nat.reduceEqDiff, Nat.reduceAdd, Nat.reduceMul, Nat.reduceLeDiff, Nat.reduceSub, Nat.reduceLT, Int.reduceToNat, Int.reduceLT, Int.reduceLE, reduceCtorEq]))
        · rw [decide_eq_false (fun h => by unfold winP at h; omega)]
          try simp only [r29_0, r29_1, c29, F29, vE, minI_2, maxI_2, mnI_min, mxI_max, h2, h3, w1, w2, h7, h8, go_sem, Int.reduceTMod, Int.reduceTDiv, Int.reduceDiv, Int.reduceMod, Int.reduceAdd, Int.reduceSub, Int.reduceMul, Int.reduceNeg, Int.reducePow, Int.reduceEq, ↓reduceIte, Nat.reduceEqDiff, Nat.reduceAdd, Nat.reduceMul, Nat.reduceLeDiff, Nat.reduceSub, Nat.reduceLT, Int.reduceToNat, Int.reduceLT, Int.reduceLE, reduceCtorEq]
          repeat' ((first | refine FK_split (fun h_ => ?_) (fun h_ => ?_) | refine GK_split (fun h_ => ?_) (fun h_ => ?_) | refine ite_both (fun h_ => ?_) (fun h_ => ?_)) <;> (try simp only [decide_eq_true_eq, decide_eq_false_iff_not, Bool.not_true, Bool.not_false, Bool.not_eq_true', Bool.not_eq_false', Bool.not_eq_eq_eq_not, Decidable.not_not] at h_) <;> (try simp only [r29_0, r29_1, c29, F29, vE, minI_2, maxI_2, mnI_min, mxI_max, h2, h3, w1, w2, h7, h8, h_, go_sem, Int.reduceTMod, Int.reduceTDiv, Int.reduceDiv, Int.reduceMod, Int.reduceAdd, Int.reduceSub, Int.reduceMul, Int.reduceNeg, Int.reducePow, Int.reduceEq, ↓reduceIte, Nat.reduceEqDiff, Nat.reduceAdd, Nat.reduceMul, Nat.reduceLeDiff, Nat.reduceSub, Nat.reduceLT, Int.reduceToNat, Int.reduceLT, Int.reduceLE, reduceCtorEq]))
      · rw [decide_eq_false (fun h => by unfold winP at h; omega)]
        try simp only [r29_0, r29_1, c29, F29, vE, minI_2, maxI_2, mnI_min, mxI_max, h2, h3, w1, w2, h7, go_sem, Int.reduceTMod, Int.reduceTDiv, Int.reduceDiv, Int.reduceMod, Int.reduceAdd, Int.reduceSub, Int.reduceMul, Int.reduceNeg, Int.reducePow, Int.reduceEq, ↓reduceIte, Nat.reduceEqDiff, Nat.reduceAdd, Nat.reduceMul, Nat.reduceLeDiff, Nat.reduceSub, Nat.reduceLT, Int.reduceToNat, Int.reduceLT, Int.reduceLE, reduceCtorEq]
        repeat' ((first | refine FK_split (fun h_ => ?_) (fun h_ => ?_) | refine GK_split (fun h_ => ?_) (fun h_ => ?_) | refine ite_both (fun h_ => ?_) (fun h_ => ?_)) <;> (try simp only [decide_eq_true_eq, decide_eq_false_iff_not, Bool.not_true, Bool.not_false, Bool.not_eq_true', Bool.not_eq_false', Bool.not_eq_eq_eq_not, Decidable.not_not] at h_) <;> (try simp only [r29_0, r29_1, c29, F29, vE, minI_2, maxI_2, mnI_min, mxI_max, h2, h3, w1, w2, h7, h_, go_sem, Int.reduceTMod, Int.reduceTDiv, Int.reduceDiv, Int.reduceMod, Int.reduceAdd, Int.reduceSub, Int.reduceMul, Int.reduceNeg, Int.reducePow, Int.reduceEq, ↓reduceIte, Nat.reduceEqDiff, Nat.reduceAdd, Nat.reduceMul, Nat.reduceLeDiff, Nat.reduceSub, Nat.reduceLT, Int.reduceToNat, Int.reduceLT, Int.reduceLE, reduceCtorEq]))
    · rw [decide_eq_false (fun h => by unfold winP at h; omega)]
      try simp only [r29_0, r29_1, c29, F29, vE, minI_2, maxI_2, mnI_min, mxI_max, h2, h3, go_sem, Int.reduceTMod, Int.reduceTDiv, Int.reduceDiv, Int.reduceMod, Int.reduceAdd, Int.reduceSub, Int.reduceMul, Int.reduceNeg, Int.reducePow, Int.reduceEq, ↓reduceIte, Nat.reduceEqDiff, Nat.reduceAdd, Nat.reduceMul, Nat.reduceLeDiff, Nat.reduceSub, Nat.reduceLT, Int.reduceToNat, Int.reduceLT, Int.reduceLE, reduceCtorEq]
      repeat' ((first | refine FK_split (fun h_ => ?_) (fun h_ => ?_) | refine GK_split (fun h_ => ?_) (fun h_ => ?_) | refine ite_both (fun h_ => ?_) (fun h_ => ?_)) <;> (try simp only [decide_eq_true_eq, decide_eq_false_iff_not, Bool.not_true, Bool.not_false, Bool.not_eq_true', Bool.not_eq_false', Bool.not_eq_eq_eq_not, Decidable.not_not] at h_) <;> (try simp only [r29_0, r29_1, c29, F29, vE, minI_2, maxI_2, mnI_min, mxI_max, h2, h3, h_, go_sem, Int.reduceTMod, Int.reduceTDiv, Int.reduceDiv, Int.reduceMod, Int.reduceAdd, Int.reduceSub, Int.reduceMul, Int.reduceNeg, Int.reducePow, Int.reduceEq, ↓reduceIte, Nat.reduceEqDiff, Nat.reduceAdd, Nat.reduceMul, Nat.reduceLeDiff, Nat.reduceSub, Nat.reduceLT, Int.reduceToNat, Int.reduceLT, Int.reduceLE, reduceCtorEq]))
  · rw [decide_eq_false (fun h => by unfold winP at h; omega)]
    try simp only [r29_0, r29_1, c29, F29, vE, minI_2, maxI_2, mnI_min, mxI_max, h2, go_sem, Int.reduceTMod, Int.reduceTDiv, Int.reduceDiv, Int.reduceMod, Int.reduceAdd, Int.reduceSub, Int.reduceMul, Int.reduceNeg, Int.reducePow, Int.reduceEq, ↓reduceIte, Nat.reduceEqDiff, Nat.reduceAdd, Nat.reduceMul, Nat.reduceLeDiff, Nat.reduceSub, Nat.reduceLT, Int.reduceToNat, Int.reduceLT, Int.reduceLE, reduceCtorEq]
    repeat' ((first | refine FK_split (fun h_ => ?_) (fun h_ => ?_) | refine GK_split (fun h_ => ?_) (fun h_ => ?_) | refine ite_both (fun h_ => ?_) (fun h_ => ?_)) <;> (try simp only [decide_eq_true_eq, decide_eq_false_iff_not, Bool.not_true, Bool.not_false, Bool.not_eq_true', Bool.not_eq_false', Bool.not_eq_eq_eq_not, Decidable.not_not] at h_) <;> (try simp only [r29_0, r29_1, c29, F29, vE, minI_2, maxI_2, mnI_min, mxI_max, h2, h_, go_sem, Int.reduceTMod, Int.reduceTDiv, Int.reduceDiv, Int.reduceMod, Int.reduceAdd, Int.reduceSub, Int.reduceMul, Int.reduceNeg, Int.reducePow, Int.reduceEq, ↓reduceIte, Nat.reduceEqDiff, Nat.reduceAdd, Nat.reduceMul, Nat.reduceLeDiff, Nat.reduceSub, Nat.reduceLT, Int.reduceToNat, Int.reduceLT, Int.reduceLE, reduceCtorEq]))

/- What is left of crossings, and how samples are counted: plain. Conditions: those that each theorem names. -/
open Go Go.Proofs
set_option linter.unusedSimpArgs false
set_option linter.unusedVariables false

/-- The sum of the crossings right of x. -/
def gtS (x : Int) : List XC → Int
  | [] => 0
  | c :: r => (if x < c.1 then c.2 else 0) + gtS x r
def byS : List XC → Int
  | [] => 0
  | c :: r => c.2 + byS r
theorem gtS_append (x : Int) : ∀ a b : List XC, gtS x (a ++ b) = gtS x a + gtS x b
  | [], b => by simp [gtS]
  | c :: a, b => by rw [List.cons_append, gtS, gtS, gtS_append x a b]; omega
theorem gtS_perm (x : Int) {a b : List XC} (h : a.Perm b) : gtS x a = gtS x b := by
  induction h with
  | nil => rfl
  | cons c _ ih => rw [gtS, gtS, ih]
  | swap c d l => simp only [gtS]; omega
  | trans _ _ h1 h2 => rw [h1, h2]
theorem gtS_opt {p q : Pt} {y x : Int} : gtS x (edgeX p q y).toList = edgeW p q ⟨x, y⟩ := by
  cases h : edgeX p q y with
  | none => rw [edgeX_none h]; rfl
  | some c => rw [edgeX_some h]; simp [gtS]
theorem gtS_to (l : List Pt) (y x : Int) : ∀ i : Nat, gtS x (xTo l y i) = windsTo l ⟨x, y⟩ i
  | 0 => rfl
  | i + 1 => by
    rw [xTo, windsTo, gtS_append, gtS_to l y x i]
    congr 1
    cases l[(i + l.length - 1) % l.length]? <;> cases l[i]? <;> first | exact gtS_opt | rfl
theorem gtS_all (L : List (List Pt)) (y x : Int) : ∀ i : Nat, gtS x (xAll L y i) = wSum L ⟨x, y⟩ i
  | 0 => rfl
  | i + 1 => by
    rw [xAll, wSum, gtS_append, gtS_all L y x i]
    congr 1
    cases L[i]? <;> first | exact gtS_to _ _ _ _ | rfl
def rowC (L : List (List Pt)) (y : Int) : List XC := sortX (xAll L y L.length)
theorem gtS_row (L : List (List Pt)) (y x : Int) : gtS x (rowC L y) = wSum L ⟨x, y⟩ L.length := by
  rw [← gtS_all]; exact gtS_perm x (sortX_perm _)
theorem gtS_zero {x : Int} : ∀ {C : List XC}, (∀ c ∈ C, c.1 ≤ x) → gtS x C = 0
  | [], _ => rfl
  | c :: r, h => by
    have h1 := h c (by simp)
    rw [gtS, if_neg (by omega), gtS_zero (fun d hd => h d (by simp [hd]))]
    rfl
theorem gtS_byS {x : Int} : ∀ {C : List XC}, (∀ c ∈ C, x < c.1) → gtS x C = byS C
  | [], _ => rfl
  | c :: r, h => by
    have h1 := h c (by simp)
    rw [gtS, if_pos h1, byS, gtS_byS (fun d hd => h d (by simp [hd]))]
theorem drop_eq {x : Int} {C : List XC} (hs : C.Pairwise (fun a b => a.1 ≤ b.1)) (k : Nat) (h1 : ∀ c ∈ C.take k, c.1 ≤ x) (h2 : ∀ c, C[k]? = some c → x < c.1) : byS (C.drop k) = gtS x C := by
  have e : gtS x C = gtS x (C.take k) + gtS x (C.drop k) := by rw [← gtS_append, List.take_append_drop]
  rw [e, gtS_zero h1, Int.zero_add]
  refine (gtS_byS fun c hc => ?_).symm
  cases hd : C.drop k with
  | nil => rw [hd] at hc; cases hc
  | cons d r =>
    have hk : C[k]? = some d := by
      have := congrArg (·[0]?) hd
      simpa using this
    have hx := h2 d hk
    rw [hd] at hc
    rcases List.mem_cons.1 hc with rfl | hr
    · exact hx
    · have hp : (d :: r).Pairwise (fun a b => a.1 ≤ b.1) := by rw [← hd]; exact hs.sublist (List.drop_sublist k C)
      have := (List.pairwise_cons.1 hp).1 c hr
      omega
theorem byS_bd : ∀ {C : List XC}, (∀ c ∈ C, -1 ≤ c.2 ∧ c.2 ≤ 1) → -(C.length : Int) ≤ byS C ∧ byS C ≤ C.length
  | [], _ => by simp [byS]
  | c :: r, h => by
    have h1 := h c (by simp)
    have h2 := byS_bd (C := r) (fun d hd => h d (by simp [hd]))
    rw [byS, List.length_cons]
    omega
theorem byS_append : ∀ a b : List XC, byS (a ++ b) = byS a + byS b
  | [], b => by simp [byS]
  | c :: a, b => by rw [List.cons_append, byS, byS, byS_append a b]; omega
theorem xTo_by (l : List Pt) (y : Int) : ∀ (i : Nat), ∀ c ∈ xTo l y i, -1 ≤ c.2 ∧ c.2 ≤ 1
  | 0, c, h => by simp [xTo] at h
  | i + 1, c, h => by
    rw [xTo, List.mem_append] at h
    rcases h with h | h
    · exact xTo_by l y i c h
    · split at h
      · rename_i p q _ _
        cases he : edgeX p q y with
        | none => rw [he] at h; simp at h
        | some d => rw [he] at h; simp at h; subst h; exact edgeX_by he
      · simp at h
theorem xAll_by (L : List (List Pt)) (y : Int) : ∀ (i : Nat), ∀ c ∈ xAll L y i, -1 ≤ c.2 ∧ c.2 ≤ 1
  | 0, c, h => by simp [xAll] at h
  | i + 1, c, h => by
    rw [xAll, List.mem_append] at h
    rcases h with h | h
    · exact xAll_by L y i c h
    · split at h
      · exact xTo_by _ _ _ c h
      · simp at h
theorem rowC_by (L : List (List Pt)) (y : Int) : ∀ c ∈ rowC L y, -1 ≤ c.2 ∧ c.2 ≤ 1 := fun c hc => xAll_by L y _ c ((sortX_perm _).mem_iff.1 hc)
theorem rowC_len (L : List (List Pt)) (y : Int) (hn : L.length ≤ 60) (hL : ∀ l ∈ L, l.length ≤ 20) : (rowC L y).length ≤ 1200 := by
  unfold rowC
  rw [sortX_len]
  have := xAll_len L y hL L.length
  omega

/-! ### samples counted -/
def b01 (b : Bool) : Int := if b = true then 1 else 0
/-- A sum of four in a row. -/
def S4 (f : Nat → Int) (c : Nat) : Nat → Int
  | 0 => 0
  | i + 1 => S4 f c i + (if i / 4 = c then f i else 0)
theorem S4_low (f : Nat → Int) (c : Nat) : ∀ i, i ≤ 4 * c → S4 f c i = 0
  | 0, _ => rfl
  | i + 1, h => by rw [S4, S4_low f c i (by omega), if_neg (by omega)]; rfl
theorem S4_eq (f : Nat → Int) (c : Nat) : ∀ i, 4 * c + 4 ≤ i → S4 f c i = f (4 * c) + f (4 * c + 1) + f (4 * c + 2) + f (4 * c + 3)
  | 0, h => by omega
  | i + 1, h => by
    by_cases e : i = 4 * c + 3
    · subst e
      rw [S4, S4, S4, S4, S4_low f c _ (Nat.le_refl _), if_pos (by omega), if_pos (by omega), if_pos (by omega), if_pos (by omega)]
      omega
    · rw [S4, S4_eq f c i (by omega), if_neg (by omega)]
      omega
theorem S4_congr {f g : Nat → Int} {c : Nat} : ∀ {i : Nat}, (∀ k, k < i → f k = g k) → S4 f c i = S4 g c i
  | 0, _ => rfl
  | i + 1, h => by rw [S4, S4, S4_congr (fun k hk => h k (by omega)), h i (by omega)]
/-- What a row of samples below i brings to the pixel c. -/
def cI (ins : Nat → Nat → Bool) (w j : Nat) : Nat → Nat → Int
  | 0, _ => 0
  | i + 1, c => cI ins w j i c + (if ins j i = true ∧ c = j / 4 * w + i / 4 then 1 else 0)
def cJ (ins : Nat → Nat → Bool) (w : Nat) : Nat → Nat → Int
  | 0, _ => 0
  | j + 1, c => cJ ins w j c + cI ins w j (4 * w) c
theorem place_eq {r q w a b : Nat} (ha : a < w) (hb : b < w) : r * w + a = q * w + b ↔ r = q ∧ a = b := by
  constructor
  · intro h
    have h1 : (r * w + a) / w = r := by rw [Nat.mul_comm, Nat.mul_add_div (by omega), Nat.div_eq_of_lt ha]; rfl
    have h2 : (q * w + b) / w = q := by rw [Nat.mul_comm, Nat.mul_add_div (by omega), Nat.div_eq_of_lt hb]; rfl
    have e : r = q := by rw [← h1, h, h2]
    subst e
    exact ⟨rfl, by omega⟩
  · rintro ⟨rfl, rfl⟩; rfl
theorem cI_eq (ins : Nat → Nat → Bool) (w j r c : Nat) (hc : c < w) : ∀ i, i ≤ 4 * w → cI ins w j i (r * w + c) = if j / 4 = r then S4 (fun i => b01 (ins j i)) c i else 0
  | 0, _ => by simp [cI, S4]
  | i + 1, h => by
    rw [cI, cI_eq ins w j r c hc i (by omega)]
    simp only [place_eq hc (show i / 4 < w by omega)]
    by_cases h1 : j / 4 = r
    · rw [if_pos h1, if_pos h1, S4]
      congr 1
      by_cases h2 : i / 4 = c
      · rw [if_pos h2]
        unfold b01
        by_cases h3 : ins j i = true
        · rw [if_pos ⟨h3, h1.symm, h2.symm⟩, if_pos h3]
        · rw [if_neg (fun h => h3 h.1), if_neg h3]
      · rw [if_neg (fun h => h2 h.2.2.symm), if_neg h2]
    · rw [if_neg h1, if_neg h1, if_neg (fun h => h1 h.2.1.symm)]
      rfl
theorem cJ_eq (ins : Nat → Nat → Bool) (w r c : Nat) (hc : c < w) : ∀ j, cJ ins w j (r * w + c) = S4 (fun j => S4 (fun i => b01 (ins j i)) c (4 * w)) r j
  | 0 => rfl
  | j + 1 => by rw [cJ, S4, cJ_eq ins w r c hc j, cI_eq ins w j r c hc (4 * w) (Nat.le_refl _)]
/-- The samples of a pixel. -/
def pixK (ins : Nat → Nat → Bool) (r c : Nat) : Nat → Int
  | 0 => 0
  | k + 1 => pixK ins r c k + b01 (ins (4 * r + k / 4) (4 * c + k % 4))
theorem cJ_pix (ins : Nat → Nat → Bool) (w h r c : Nat) (hr : r < h) (hc : c < w) : cJ ins w (4 * h) (r * w + c) = pixK ins r c 16 := by
  rw [cJ_eq ins w r c hc, S4_eq _ _ _ (by omega)]
  simp only [S4_eq _ c (4 * w) (show 4 * c + 4 ≤ 4 * w by omega)]
  simp only [pixK, Nat.reduceDiv, Nat.reduceMod, Nat.add_zero]
  omega
theorem b01_bd (b : Bool) : 0 ≤ b01 b ∧ b01 b ≤ 1 := by cases b <;> simp [b01]
theorem pixK_bd (ins : Nat → Nat → Bool) (r c : Nat) : ∀ k : Nat, 0 ≤ pixK ins r c k ∧ pixK ins r c k ≤ k
  | 0 => by simp [pixK]
  | k + 1 => by
    have h := pixK_bd ins r c k
    have h2 := b01_bd (ins (4 * r + k / 4) (4 * c + k % 4))
    rw [pixK]
    omega
/-- A mask's cells. -/
def maskC (f : Nat → Int) (N : Nat) : List Cell := (List.range N).map fun c => .sc (.int .u8 (f c % 256))
theorem maskC_len (f : Nat → Int) (N : Nat) : (maskC f N).length = N := by simp [maskC]
theorem maskC_get (f : Nat → Int) {N c : Nat} (h : c < N) : (maskC f N)[c]? = some (.sc (.int .u8 (f c % 256))) := by simp [maskC, h]
theorem maskC_congr {f g : Nat → Int} {N : Nat} (h : ∀ c, c < N → f c = g c) : maskC f N = maskC g N := by
  unfold maskC
  refine List.map_congr_left fun c hc => ?_
  rw [h c (List.mem_range.1 hc)]
theorem maskC_set (f : Nat → Int) {N c : Nat} (h : c < N) : (maskC f N).set c (.sc (.int .u8 ((f c + 1) % 256))) = maskC (fun d => f d + (if d = c then 1 else 0)) N := by
  apply List.ext_getElem?
  intro i
  rw [List.getElem?_set]
  rw [maskC_len]
  by_cases e : c = i
  · subst e
    rw [if_pos rfl, if_pos h, maskC_get _ h, if_pos rfl]
  · rw [if_neg e]
    by_cases hi : i < N
    · rw [maskC_get _ hi, maskC_get _ hi, if_neg (fun h => e h.symm), Int.add_zero]
    · rw [List.getElem?_eq_none (by rw [maskC_len]; omega), List.getElem?_eq_none (by rw [maskC_len]; omega)]
theorem maskC_zero (N : Nat) : maskC (fun _ => 0) N = List.replicate N (.sc (.int .u8 0)) := by
  unfold maskC
  simp [List.map_const']
theorem wrapB (x : Int) : IntKind.u8.wrap x = x % 256 := by simp [IntKind.wrap, IntKind.bits, IntKind.signed]

end Go.Proofs.Ytkdbnmohpanpfaa.Sy
