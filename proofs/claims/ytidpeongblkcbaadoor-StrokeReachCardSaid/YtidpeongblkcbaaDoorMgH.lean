import Derived.Test.YtidpeongblkcbaaDoorMgG
/- Boxes walked: joined, has, the bound of points, the reach. Conditions: those that each theorem names. -/
namespace Go.Proofs.YtidpeongblkcbaaDoor.Sy
open Go Go.Proofs
set_option linter.unusedSimpArgs false
set_option linter.unusedVariables false
set_option maxRecDepth 20000
attribute [local go_sem] XK_seq XK_block XK_skip XK_exit XK_ret XK_cond XK_reg XK_dreg XK_ureg KN_seq KN_blk KN_lp KN_chk KN_chku KN_top KN_fin KX_seq KX_lp KX_blk KX_chk KX_top KR_seq KR_blk KR_lp KR_chk KR_top KR_fin FK_true FK_false RK_nil RK_mv RK_pick RK_alloc RK_box RK_build RK_bslice RK_load1 RK_loadA RK_store RK_nilchk RK_bin RK_beq RK_eqv RK_eqnil RK_un RK_conv RK_mkfn RK_mkslice RK_slS RK_slA RK_fadr RK_fld RK_iadrA RK_iadrS RK_idxA RK_ext RK_lenC RK_cap RK_app RK_cpy RK_mn RK_mx RK_len RK_carry RK_clr carryR um0 um1 ThenK_some RK_guard GK_tt GK_ff GK_tf GK_ft GK_none QK_some RK_callQ RK_callZ VK_clo RK_callV
  evalOp evO evOs upd_at unfrz_at putE_some putE_none boolOf_b boolOf_tup Option.map_some evRes pack_one pack_two pack_three pack_none List.getD_cons_zero List.getD_cons_succ getD_nil
  Option.some.injEq exists_eq_left' Reg.cs? fillC setL List.set_cons_zero List.set_cons_succ List.length_cons List.length_nil rd_upd rd_updn rdB wr List.drop_zero List.drop_succ_cons List.take_succ_cons List.take_zero List.getElem?_cons_zero List.getElem?_cons_succ
  ix Int.toNat_zero lenO_sl lenO_nil nadd na_eq na_eq' na_lt na_ee na_ll na_ne na_ne' na_tt
attribute [local go_sem] Reg.flat_one Reg.flat_agg Reg.flat_tup flats_nil flats_cons Cell.flat_sc Cell.flat_ptr List.all_cons List.all_nil disOk safeOk safeR decide_eq_true_eq decide_eq_false_iff_not
  List.map_cons List.map_nil List.cons_append List.nil_append List.append_nil evalOp.capsOf Bool.false_bne Bool.bne_false Bool.true_bne Bool.bne_true bne_self_eq_false beq_self_eq_true Bool.not_not Bool.false_and Bool.and_false Bool.true_or Bool.or_true beq_iff_eq eqCells
  Bool.true_beq Bool.false_beq Bool.not_eq_true' Bool.not_eq_eq_eq_not Bool.not_eq_false' and_false false_and frz_at idOf Option.isSome_some Bool.and_eq_true
attribute [local go_sem] wr_eq bV_add bV_sub bV_mul bV_eql bV_neq bV_lss bV_leq bV_gtr bV_geq bV_quo bV_rem bV_shr bV_shl uV_not uV_neg wrapU bits_and bits_or bits_xor IntKind.bits Nat.min_eq_left Nat.min_eq_right Nat.min_self
attribute [local go_sem] bne_iff_ne Int.cast_ofNat_Int Nat.zero_add Nat.add_zero and_self and_true true_and ne_eq not_false_eq_true not_true_eq_false decide_true decide_false Bool.false_eq_true Bool.not_true Bool.not_false Bool.true_and Bool.and_true Bool.or_false Bool.false_or Bool.and_self

structure Bx where
  x0 : Int
  y0 : Int
  x1 : Int
  y1 : Int
abbrev Bx.cs (b : Bx) : List Cell := [I b.x0, I b.y0, I b.x1, I b.y1]
abbrev Bx.r (b : Bx) : Reg := .agg [I b.x0, I b.y0, I b.x1, I b.y1]
def Bx.emp (b : Bx) : Bool := decide (b.x1 ≤ b.x0) || decide (b.y1 ≤ b.y0)
def Bx.has (b : Bx) (p : Pt) : Bool := decide (b.x0 ≤ p.x) && (decide (p.x < b.x1) && (decide (b.y0 ≤ p.y) && decide (p.y < b.y1)))
def Bx.join (b c : Bx) : Bx := if b.emp = true ∧ c.emp = true then ⟨0, 0, 0, 0⟩ else if b.emp = true then c else if c.emp = true then b else ⟨mnI b.x0 c.x0, mnI b.y0 c.y0, mxI b.x1 c.x1, mxI b.y1 c.y1⟩
theorem v_BEmpty (a b c d : Int) (m : Mem) (n : Nat) : callF TA 48 [.agg [I a, I b, I c, I d]] m n = some (RB (decide (c ≤ a) || decide (d ≤ b))) := by
  refine callF_of (Fn_ofK (fn := F48) rfl (by simp [F48]) ?_)
  by_cases h : c ≤ a
  · skip
    try simp only [r48_0, r48_1, c48, F48, h, Bool.true_or, go_sem, Int.reduceTMod, Int.reduceTDiv, Int.reduceDiv, Int.reduceMod, Int.reduceAdd, Int.reduceSub, Int.reduceMul, Int.reduceNeg, Int.reducePow, Int.reduceEq, ↓reduceIte, Nat.reduceEqDiff, Nat.reduceAdd, Nat.reduceMul, Nat.reduceLeDiff, Nat.reduceSub, Nat.reduceLT, Int.reduceToNat, Int.reduceLT, Int.reduceLE, reduceCtorEq]
    repeat' ((first | refine FK_split (fun h_ => ?_) (fun h_ => ?_) | refine GK_split (fun h_ => ?_) (fun h_ => ?_) | refine ite_both (fun h_ => ?_) (fun h_ => ?_)) <;> (try simp only [decide_eq_true_eq, decide_eq_false_iff_not, Bool.not_true, Bool.not_false, Bool.not_eq_true', Bool.not_eq_false', Bool.not_eq_eq_eq_not, Decidable.not_not] at h_) <;> (try simp only [r48_0, r48_1, c48, F48, h, Bool.true_or, h_, go_sem, Int.reduceTMod, Int.reduceTDiv, Int.reduceDiv, Int.reduceMod, Int.reduceAdd, Int.reduceSub, Int.reduceMul, Int.reduceNeg, Int.reducePow, Int.reduceEq, ↓reduceIte, Nat.reduceEqDiff, Nat.reduceAdd, Nat.reduceMul, Nat.reduceLeDiff, Nat.reduceSub, Nat.reduceLT, Int.reduceToNat, Int.reduceLT, Int.reduceLE, reduceCtorEq]))
  · skip
    try simp only [r48_0, r48_1, c48, F48, h, Bool.false_or, go_sem, Int.reduceTMod, Int.reduceTDiv, Int.reduceDiv, Int.reduceMod, Int.reduceAdd, Int.reduceSub, Int.reduceMul, Int.reduceNeg, Int.reducePow, Int.reduceEq, ↓reduceIte, Nat.reduceEqDiff, Nat.reduceAdd, Nat.reduceMul, Nat.reduceLeDiff, Nat.reduceSub, Nat.reduceLT, Int.reduceToNat, Int.reduceLT, Int.reduceLE, reduceCtorEq]
    repeat' ((first | refine FK_split (fun h_ => ?_) (fun h_ => ?_) | refine GK_split (fun h_ => ?_) (fun h_ => ?_) | refine ite_both (fun h_ => ?_) (fun h_ => ?_)) <;> (try simp only [decide_eq_true_eq, decide_eq_false_iff_not, Bool.not_true, Bool.not_false, Bool.not_eq_true', Bool.not_eq_false', Bool.not_eq_eq_eq_not, Decidable.not_not] at h_) <;> (try simp only [r48_0, r48_1, c48, F48, h, Bool.false_or, h_, go_sem, Int.reduceTMod, Int.reduceTDiv, Int.reduceDiv, Int.reduceMod, Int.reduceAdd, Int.reduceSub, Int.reduceMul, Int.reduceNeg, Int.reducePow, Int.reduceEq, ↓reduceIte, Nat.reduceEqDiff, Nat.reduceAdd, Nat.reduceMul, Nat.reduceLeDiff, Nat.reduceSub, Nat.reduceLT, Int.reduceToNat, Int.reduceLT, Int.reduceLE, reduceCtorEq]))
theorem v_BJoin (b c : Bx) (m : Mem) (n : Nat) : callF TA 49 [.agg [I b.x0, I b.y0, I b.x1, I b.y1], .agg [I c.x0, I c.y0, I c.x1, I c.y1]] m n = some (b.join c).r := by
  refine callF_of (Fn_ofK (fn := F49) rfl (by simp [F49]) ?_)
  have eb : b.emp = (decide (b.x1 ≤ b.x0) || decide (b.y1 ≤ b.y0)) := rfl
  have ec : c.emp = (decide (c.x1 ≤ c.x0) || decide (c.y1 ≤ c.y0)) := rfl
  have vb := v_BEmpty b.x0 b.y0 b.x1 b.y1
  have vc := v_BEmpty c.x0 c.y0 c.x1 c.y1
  rw [← eb] at vb
  rw [← ec] at vc
  unfold Bx.join
  cases hb : b.emp <;> cases hc : c.emp <;> rw [hb] at vb <;> rw [hc] at vc
  · skip
    try simp only [r49_0, r49_1, r49_2, r49_3, r49_4, r49_5, r49_6, r49_7, c49, F49, vb, vc, minI_two, maxI_two, go_sem, Int.reduceTMod, Int.reduceTDiv, Int.reduceDiv, Int.reduceMod, Int.reduceAdd, Int.reduceSub, Int.reduceMul, Int.reduceNeg, Int.reducePow, Int.reduceEq, ↓reduceIte, Nat.reduceEqDiff, Nat.reduceAdd, Nat.reduceMul, Nat.reduceLeDiff, Nat.reduceSub, Nat.reduceLT, Int.reduceToNat, Int.reduceLT, Int.reduceLE, reduceCtorEq]
    repeat' ((first | refine FK_split (fun h_ => ?_) (fun h_ => ?_) | refine GK_split (fun h_ => ?_) (fun h_ => ?_) | refine ite_both (fun h_ => ?_) (fun h_ => ?_)) <;> (try simp only [decide_eq_true_eq, decide_eq_false_iff_not, Bool.not_true, Bool.not_false, Bool.not_eq_true', Bool.not_eq_false', Bool.not_eq_eq_eq_not, Decidable.not_not] at h_) <;> (try simp only [r49_0, r49_1, r49_2, r49_3, r49_4, r49_5, r49_6, r49_7, c49, F49, vb, vc, minI_two, maxI_two, h_, go_sem, Int.reduceTMod, Int.reduceTDiv, Int.reduceDiv, Int.reduceMod, Int.reduceAdd, Int.reduceSub, Int.reduceMul, Int.reduceNeg, Int.reducePow, Int.reduceEq, ↓reduceIte, Nat.reduceEqDiff, Nat.reduceAdd, Nat.reduceMul, Nat.reduceLeDiff, Nat.reduceSub, Nat.reduceLT, Int.reduceToNat, Int.reduceLT, Int.reduceLE, reduceCtorEq]))
  · skip
    try simp only [r49_0, r49_1, r49_2, r49_3, r49_4, r49_5, r49_6, r49_7, c49, F49, vb, vc, minI_two, maxI_two, go_sem, Int.reduceTMod, Int.reduceTDiv, Int.reduceDiv, Int.reduceMod, Int.reduceAdd, Int.reduceSub, Int.reduceMul, Int.reduceNeg, Int.reducePow, Int.reduceEq, ↓reduceIte, Nat.reduceEqDiff, Nat.reduceAdd, Nat.reduceMul, Nat.reduceLeDiff, Nat.reduceSub, Nat.reduceLT, Int.reduceToNat, Int.reduceLT, Int.reduceLE, reduceCtorEq]
    repeat' ((first | refine FK_split (fun h_ => ?_) (fun h_ => ?_) | refine GK_split (fun h_ => ?_) (fun h_ => ?_) | refine ite_both (fun h_ => ?_) (fun h_ => ?_)) <;> (try simp only [decide_eq_true_eq, decide_eq_false_iff_not, Bool.not_true, Bool.not_false, Bool.not_eq_true', Bool.not_eq_false', Bool.not_eq_eq_eq_not, Decidable.not_not] at h_) <;> (try simp only [r49_0, r49_1, r49_2, r49_3, r49_4, r49_5, r49_6, r49_7, c49, F49, vb, vc, minI_two, maxI_two, h_, go_sem, Int.reduceTMod, Int.reduceTDiv, Int.reduceDiv, Int.reduceMod, Int.reduceAdd, Int.reduceSub, Int.reduceMul, Int.reduceNeg, Int.reducePow, Int.reduceEq, ↓reduceIte, Nat.reduceEqDiff, Nat.reduceAdd, Nat.reduceMul, Nat.reduceLeDiff, Nat.reduceSub, Nat.reduceLT, Int.reduceToNat, Int.reduceLT, Int.reduceLE, reduceCtorEq]))
  · skip
    try simp only [r49_0, r49_1, r49_2, r49_3, r49_4, r49_5, r49_6, r49_7, c49, F49, vb, vc, minI_two, maxI_two, go_sem, Int.reduceTMod, Int.reduceTDiv, Int.reduceDiv, Int.reduceMod, Int.reduceAdd, Int.reduceSub, Int.reduceMul, Int.reduceNeg, Int.reducePow, Int.reduceEq, ↓reduceIte, Nat.reduceEqDiff, Nat.reduceAdd, Nat.reduceMul, Nat.reduceLeDiff, Nat.reduceSub, Nat.reduceLT, Int.reduceToNat, Int.reduceLT, Int.reduceLE, reduceCtorEq]
    repeat' ((first | refine FK_split (fun h_ => ?_) (fun h_ => ?_) | refine GK_split (fun h_ => ?_) (fun h_ => ?_) | refine ite_both (fun h_ => ?_) (fun h_ => ?_)) <;> (try simp only [decide_eq_true_eq, decide_eq_false_iff_not, Bool.not_true, Bool.not_false, Bool.not_eq_true', Bool.not_eq_false', Bool.not_eq_eq_eq_not, Decidable.not_not] at h_) <;> (try simp only [r49_0, r49_1, r49_2, r49_3, r49_4, r49_5, r49_6, r49_7, c49, F49, vb, vc, minI_two, maxI_two, h_, go_sem, Int.reduceTMod, Int.reduceTDiv, Int.reduceDiv, Int.reduceMod, Int.reduceAdd, Int.reduceSub, Int.reduceMul, Int.reduceNeg, Int.reducePow, Int.reduceEq, ↓reduceIte, Nat.reduceEqDiff, Nat.reduceAdd, Nat.reduceMul, Nat.reduceLeDiff, Nat.reduceSub, Nat.reduceLT, Int.reduceToNat, Int.reduceLT, Int.reduceLE, reduceCtorEq]))
  · skip
    try simp only [r49_0, r49_1, r49_2, r49_3, r49_4, r49_5, r49_6, r49_7, c49, F49, vb, vc, minI_two, maxI_two, go_sem, Int.reduceTMod, Int.reduceTDiv, Int.reduceDiv, Int.reduceMod, Int.reduceAdd, Int.reduceSub, Int.reduceMul, Int.reduceNeg, Int.reducePow, Int.reduceEq, ↓reduceIte, Nat.reduceEqDiff, Nat.reduceAdd, Nat.reduceMul, Nat.reduceLeDiff, Nat.reduceSub, Nat.reduceLT, Int.reduceToNat, Int.reduceLT, Int.reduceLE, reduceCtorEq]
    repeat' ((first | refine FK_split (fun h_ => ?_) (fun h_ => ?_) | refine GK_split (fun h_ => ?_) (fun h_ => ?_) | refine ite_both (fun h_ => ?_) (fun h_ => ?_)) <;> (try simp only [decide_eq_true_eq, decide_eq_false_iff_not, Bool.not_true, Bool.not_false, Bool.not_eq_true', Bool.not_eq_false', Bool.not_eq_eq_eq_not, Decidable.not_not] at h_) <;> (try simp only [r49_0, r49_1, r49_2, r49_3, r49_4, r49_5, r49_6, r49_7, c49, F49, vb, vc, minI_two, maxI_two, h_, go_sem, Int.reduceTMod, Int.reduceTDiv, Int.reduceDiv, Int.reduceMod, Int.reduceAdd, Int.reduceSub, Int.reduceMul, Int.reduceNeg, Int.reducePow, Int.reduceEq, ↓reduceIte, Nat.reduceEqDiff, Nat.reduceAdd, Nat.reduceMul, Nat.reduceLeDiff, Nat.reduceSub, Nat.reduceLT, Int.reduceToNat, Int.reduceLT, Int.reduceLE, reduceCtorEq]))
theorem v_BHas (a b c d x y : Int) (m : Mem) (n : Nat) : callF TA 24 [.agg [I a, I b, I c, I d], .agg [I x, I y]] m n = some (RB ((Bx.mk a b c d).has ⟨x, y⟩)) := by
  refine callF_of (Fn_ofK (fn := F24) rfl (by simp [F24]) ?_)
  unfold Bx.has
  by_cases h1 : a ≤ x
  · by_cases h2 : x < c
    · by_cases h3 : b ≤ y
      · skip
        try simp only [r24_0, r24_1, c24, F24, h1, h2, h3, go_sem, Int.reduceTMod, Int.reduceTDiv, Int.reduceDiv, Int.reduceMod, Int.reduceAdd, Int.reduceSub, Int.reduceMul, Int.reduceNeg, Int.reducePow, Int.reduceEq, ↓reduceIte, Nat.reduceEqDiff, Nat.reduceAdd, Nat.reduceMul, Nat.reduceLeDiff, Nat.reduceSub, Nat.reduceLT, Int.reduceToNat, Int.reduceLT, Int.reduceLE, reduceCtorEq]
        repeat' ((first | refine FK_split (fun h_ => ?_) (fun h_ => ?_) | refine GK_split (fun h_ => ?_) (fun h_ => ?_) | refine ite_both (fun h_ => ?_) (fun h_ => ?_)) <;> (try simp only [decide_eq_true_eq, decide_eq_false_iff_not, Bool.not_true, Bool.not_false, Bool.not_eq_true', Bool.not_eq_false', Bool.not_eq_eq_eq_not, Decidable.not_not] at h_) <;> (try simp only [r24_0, r24_1, c24, F24, h1, h2, h3, h_, go_sem, Int.reduceTMod, Int.reduceTDiv, Int.reduceDiv, Int.reduceMod, Int.reduceAdd, Int.reduceSub, Int.reduceMul, Int.reduceNeg, Int.reducePow, Int.reduceEq, ↓reduceIte, Nat.reduceEqDiff, Nat.reduceAdd, Nat.reduceMul, Nat.reduceLeDiff, Nat.reduceSub, Nat.reduceLT, Int.reduceToNat, Int.reduceLT, Int.reduceLE, reduceCtorEq]))
      · skip
        try simp only [r24_0, r24_1, c24, F24, h1, h2, h3, go_sem, Int.reduceTMod, Int.reduceTDiv, Int.reduceDiv, Int.reduceMod, Int.reduceAdd, Int.reduceSub, Int.reduceMul, Int.reduceNeg, Int.reducePow, Int.reduceEq, ↓reduceIte, Nat.reduceEqDiff, Nat.reduceAdd, Nat.reduceMul, Nat.reduceLeDiff, Nat.reduceSub, Nat.reduceLT, Int.reduceToNat, Int.reduceLT, Int.reduceLE, reduceCtorEq]
        repeat' ((first | refine FK_split (fun h_ => ?_) (fun h_ => ?_) | refine GK_split (fun h_ => ?_) (fun h_ => ?_) | refine ite_both (fun h_ => ?_) (fun h_ => ?_)) <;> (try simp only [decide_eq_true_eq, decide_eq_false_iff_not, Bool.not_true, Bool.not_false, Bool.not_eq_true', Bool.not_eq_false', Bool.not_eq_eq_eq_not, Decidable.not_not] at h_) <;> (try simp only [r24_0, r24_1, c24, F24, h1, h2, h3, h_, go_sem, Int.reduceTMod, Int.reduceTDiv, Int.reduceDiv, Int.reduceMod, Int.reduceAdd, Int.reduceSub, Int.reduceMul, Int.reduceNeg, Int.reducePow, Int.reduceEq, ↓reduceIte, Nat.reduceEqDiff, Nat.reduceAdd, Nat.reduceMul, Nat.reduceLeDiff, Nat.reduceSub, Nat.reduceLT, Int.reduceToNat, Int.reduceLT, Int.reduceLE, reduceCtorEq]))
    · skip
      try simp only [r24_0, r24_1, c24, F24, h1, h2, go_sem, Int.reduceTMod, Int.reduceTDiv, Int.reduceDiv, Int.reduceMod, Int.reduceAdd, Int.reduceSub, Int.reduceMul, Int.reduceNeg, Int.reducePow, Int.reduceEq, ↓reduceIte, Nat.reduceEqDiff, Nat.reduceAdd, Nat.reduceMul, Nat.reduceLeDiff, Nat.reduceSub, Nat.reduceLT, Int.reduceToNat, Int.reduceLT, Int.reduceLE, reduceCtorEq]
      repeat' ((first | refine FK_split (fun h_ => ?_) (fun h_ => ?_) | refine GK_split (fun h_ => ?_) (fun h_ => ?_) | refine ite_both (fun h_ => ?_) (fun h_ => ?_)) <;> (try simp only [decide_eq_true_eq, decide_eq_false_iff_not, Bool.not_true, Bool.not_false, Bool.not_eq_true', Bool.not_eq_false', Bool.not_eq_eq_eq_not, Decidable.not_not] at h_) <;> (try simp only [r24_0, r24_1, c24, F24, h1, h2, h_, go_sem, Int.reduceTMod, Int.reduceTDiv, Int.reduceDiv, Int.reduceMod, Int.reduceAdd, Int.reduceSub, Int.reduceMul, Int.reduceNeg, Int.reducePow, Int.reduceEq, ↓reduceIte, Nat.reduceEqDiff, Nat.reduceAdd, Nat.reduceMul, Nat.reduceLeDiff, Nat.reduceSub, Nat.reduceLT, Int.reduceToNat, Int.reduceLT, Int.reduceLE, reduceCtorEq]))
  · skip
    try simp only [r24_0, r24_1, c24, F24, h1, go_sem, Int.reduceTMod, Int.reduceTDiv, Int.reduceDiv, Int.reduceMod, Int.reduceAdd, Int.reduceSub, Int.reduceMul, Int.reduceNeg, Int.reducePow, Int.reduceEq, ↓reduceIte, Nat.reduceEqDiff, Nat.reduceAdd, Nat.reduceMul, Nat.reduceLeDiff, Nat.reduceSub, Nat.reduceLT, Int.reduceToNat, Int.reduceLT, Int.reduceLE, reduceCtorEq]
    repeat' ((first | refine FK_split (fun h_ => ?_) (fun h_ => ?_) | refine GK_split (fun h_ => ?_) (fun h_ => ?_) | refine ite_both (fun h_ => ?_) (fun h_ => ?_)) <;> (try simp only [decide_eq_true_eq, decide_eq_false_iff_not, Bool.not_true, Bool.not_false, Bool.not_eq_true', Bool.not_eq_false', Bool.not_eq_eq_eq_not, Decidable.not_not] at h_) <;> (try simp only [r24_0, r24_1, c24, F24, h1, h_, go_sem, Int.reduceTMod, Int.reduceTDiv, Int.reduceDiv, Int.reduceMod, Int.reduceAdd, Int.reduceSub, Int.reduceMul, Int.reduceNeg, Int.reducePow, Int.reduceEq, ↓reduceIte, Nat.reduceEqDiff, Nat.reduceAdd, Nat.reduceMul, Nat.reduceLeDiff, Nat.reduceSub, Nat.reduceLT, Int.reduceToNat, Int.reduceLT, Int.reduceLE, reduceCtorEq]))
def reachB (b : Bx) (h : Int) : Bx := if b.emp = true then ⟨0, 0, 0, 0⟩ else ⟨IntKind.i64.wrap (b.x0 - 2 * h), IntKind.i64.wrap (b.y0 - 2 * h), IntKind.i64.wrap (b.x1 + 2 * h), IntKind.i64.wrap (b.y1 + 2 * h)⟩
theorem v_Reach (b : Bx) {h : Int} (h1 : 1 ≤ h) (h2 : h ≤ 32768) (m : Mem) (n : Nat) : callF TA 22 [.agg [I b.x0, I b.y0, I b.x1, I b.y1], RI h] m n = some (reachB b h).r := by
  refine callF_of (Fn_ofK (fn := F22) rfl (by simp [F22]) ?_)
  have eb : b.emp = (decide (b.x1 ≤ b.x0) || decide (b.y1 ≤ b.y0)) := rfl
  have vb := v_BEmpty b.x0 b.y0 b.x1 b.y1
  have w : IntKind.i64.wrap (2 * h) = 2 * h := wr_eq (by omega) (by omega)
  rw [← eb] at vb
  unfold reachB
  cases hb : b.emp <;> rw [hb] at vb
  · skip
    try simp only [r22_0, r22_1, r22_2, r22_3, c22, F22, vb, w, go_sem, Int.reduceTMod, Int.reduceTDiv, Int.reduceDiv, Int.reduceMod, Int.reduceAdd, Int.reduceSub, Int.reduceMul, Int.reduceNeg, Int.reducePow, Int.reduceEq, ↓reduceIte, Nat.reduceEqDiff, Nat.reduceAdd, Nat.reduceMul, Nat.reduceLeDiff, Nat.reduceSub, Nat.reduceLT, Int.reduceToNat, Int.reduceLT, Int.reduceLE, reduceCtorEq]
    repeat' ((first | refine FK_split (fun h_ => ?_) (fun h_ => ?_) | refine GK_split (fun h_ => ?_) (fun h_ => ?_) | refine ite_both (fun h_ => ?_) (fun h_ => ?_)) <;> (try simp only [decide_eq_true_eq, decide_eq_false_iff_not, Bool.not_true, Bool.not_false, Bool.not_eq_true', Bool.not_eq_false', Bool.not_eq_eq_eq_not, Decidable.not_not] at h_) <;> (try simp only [r22_0, r22_1, r22_2, r22_3, c22, F22, vb, w, h_, go_sem, Int.reduceTMod, Int.reduceTDiv, Int.reduceDiv, Int.reduceMod, Int.reduceAdd, Int.reduceSub, Int.reduceMul, Int.reduceNeg, Int.reducePow, Int.reduceEq, ↓reduceIte, Nat.reduceEqDiff, Nat.reduceAdd, Nat.reduceMul, Nat.reduceLeDiff, Nat.reduceSub, Nat.reduceLT, Int.reduceToNat, Int.reduceLT, Int.reduceLE, reduceCtorEq]))
  · skip
    try simp only [r22_0, r22_1, r22_2, r22_3, c22, F22, vb, w, go_sem, Int.reduceTMod, Int.reduceTDiv, Int.reduceDiv, Int.reduceMod, Int.reduceAdd, Int.reduceSub, Int.reduceMul, Int.reduceNeg, Int.reducePow, Int.reduceEq, ↓reduceIte, Nat.reduceEqDiff, Nat.reduceAdd, Nat.reduceMul, Nat.reduceLeDiff, Nat.reduceSub, Nat.reduceLT, Int.reduceToNat, Int.reduceLT, Int.reduceLE, reduceCtorEq]
    repeat' ((first | refine FK_split (fun h_ => ?_) (fun h_ => ?_) | refine GK_split (fun h_ => ?_) (fun h_ => ?_) | refine ite_both (fun h_ => ?_) (fun h_ => ?_)) <;> (try simp only [decide_eq_true_eq, decide_eq_false_iff_not, Bool.not_true, Bool.not_false, Bool.not_eq_true', Bool.not_eq_false', Bool.not_eq_eq_eq_not, Decidable.not_not] at h_) <;> (try simp only [r22_0, r22_1, r22_2, r22_3, c22, F22, vb, w, h_, go_sem, Int.reduceTMod, Int.reduceTDiv, Int.reduceDiv, Int.reduceMod, Int.reduceAdd, Int.reduceSub, Int.reduceMul, Int.reduceNeg, Int.reducePow, Int.reduceEq, ↓reduceIte, Nat.reduceEqDiff, Nat.reduceAdd, Nat.reduceMul, Nat.reduceLeDiff, Nat.reduceSub, Nat.reduceLT, Int.reduceToNat, Int.reduceLT, Int.reduceLE, reduceCtorEq]))
/-- The bound of points. -/
def bndL (l : List Pt) : Bx := l.foldl (fun b p => b.join ⟨p.x, p.y, p.x + 1, p.y + 1⟩) ⟨0, 0, 0, 0⟩
theorem bnd_spec (l : List Pt) (hl : l.all inP = true) : (l ≠ [] → (bndL l).emp = false) ∧ (∀ p ∈ l, ((bndL l).x0 ≤ p.x ∧ p.x < (bndL l).x1) ∧ (bndL l).y0 ≤ p.y ∧ p.y < (bndL l).y1) ∧
    ((-2147483648 ≤ (bndL l).x0 ∧ (bndL l).x1 ≤ 2147483649) ∧ -2147483648 ≤ (bndL l).y0 ∧ (bndL l).y1 ≤ 2147483649) := by
  suffices H : ∀ (k : List Pt), k.all inP = true → ∀ (b : Bx) (s : List Pt), ((s = [] → b = ⟨0, 0, 0, 0⟩) ∧ (s ≠ [] → b.emp = false) ∧ (∀ p ∈ s, (b.x0 ≤ p.x ∧ p.x < b.x1) ∧ b.y0 ≤ p.y ∧ p.y < b.y1) ∧ ((-2147483648 ≤ b.x0 ∧ b.x1 ≤ 2147483649) ∧ -2147483648 ≤ b.y0 ∧ b.y1 ≤ 2147483649)) →
      let r := k.foldl (fun b p => b.join ⟨p.x, p.y, p.x + 1, p.y + 1⟩) b
      (s ++ k ≠ [] → r.emp = false) ∧ (∀ p ∈ s ++ k, (r.x0 ≤ p.x ∧ p.x < r.x1) ∧ r.y0 ≤ p.y ∧ p.y < r.y1) ∧ ((-2147483648 ≤ r.x0 ∧ r.x1 ≤ 2147483649) ∧ -2147483648 ≤ r.y0 ∧ r.y1 ≤ 2147483649) by
    have := H l hl ⟨0, 0, 0, 0⟩ [] ⟨fun _ => rfl, fun h => absurd rfl h, fun p hp => (by cases hp), by simp⟩
    simpa [bndL] using this
  intro k
  induction k with
  | nil =>
    intro _ b s ⟨h1, h2, h3, h4⟩
    simp only [List.foldl_nil, List.append_nil]
    exact ⟨h2, h3, h4⟩
  | cons p k ih =>
    intro hk b s ⟨h1, h2, h3, h4⟩
    rw [List.all_cons, Bool.and_eq_true] at hk
    have ip : inP ⟨p.x, p.y⟩ = true := hk.1
    simp only [inP, Bool.and_eq_true, rm_iff] at ip
    have hu : (Bx.mk p.x p.y (p.x + 1) (p.y + 1)).emp = false := by
      unfold Bx.emp
      rw [Bool.or_eq_false_iff]
      exact ⟨decide_eq_false (by simp only; omega), decide_eq_false (by simp only; omega)⟩
    have key := ih hk.2 (b.join ⟨p.x, p.y, p.x + 1, p.y + 1⟩) (s ++ [p]) ?_
    · simp only [List.foldl_cons]
      rw [List.append_assoc] at key
      exact key
    · refine ⟨fun h => by simp at h, ?_⟩
      by_cases hs : s = []
      · have hb := h1 hs
        have he : b.emp = true := by rw [hb]; rfl
        have hj : b.join ⟨p.x, p.y, p.x + 1, p.y + 1⟩ = ⟨p.x, p.y, p.x + 1, p.y + 1⟩ := by
          unfold Bx.join
          rw [hu, he]
          simp
        rw [hj, hs]
        refine ⟨fun _ => hu, fun q hq => ?_, by simp only; omega⟩
        simp at hq
        subst hq
        simp only
        omega
      · have he := h2 hs
        have hj : b.join ⟨p.x, p.y, p.x + 1, p.y + 1⟩ = ⟨mnI b.x0 p.x, mnI b.y0 p.y, mxI b.x1 (p.x + 1), mxI b.y1 (p.y + 1)⟩ := by
          unfold Bx.join
          rw [hu, he]
          simp
        rw [hj]
        have m1 : mnI b.x0 p.x ≤ b.x0 ∧ mnI b.x0 p.x ≤ p.x ∧ (mnI b.x0 p.x = b.x0 ∨ mnI b.x0 p.x = p.x) := by unfold mnI; split <;> omega
        have m2 : mnI b.y0 p.y ≤ b.y0 ∧ mnI b.y0 p.y ≤ p.y ∧ (mnI b.y0 p.y = b.y0 ∨ mnI b.y0 p.y = p.y) := by unfold mnI; split <;> omega
        have m3 : b.x1 ≤ mxI b.x1 (p.x + 1) ∧ p.x + 1 ≤ mxI b.x1 (p.x + 1) ∧ (mxI b.x1 (p.x + 1) = b.x1 ∨ mxI b.x1 (p.x + 1) = p.x + 1) := by unfold mxI; split <;> omega
        have m4 : b.y1 ≤ mxI b.y1 (p.y + 1) ∧ p.y + 1 ≤ mxI b.y1 (p.y + 1) ∧ (mxI b.y1 (p.y + 1) = b.y1 ∨ mxI b.y1 (p.y + 1) = p.y + 1) := by unfold mxI; split <;> omega
        refine ⟨fun _ => ?_, fun q hq => ?_, by simp only; omega⟩
        · unfold Bx.emp
          rw [Bool.or_eq_false_iff]
          exact ⟨decide_eq_false (by simp only; omega), decide_eq_false (by simp only; omega)⟩
        · rw [List.mem_append, List.mem_singleton] at hq
          rcases hq with hq | rfl
          · have := h3 q hq
            simp only
            omega
          · simp only
            omega
theorem bnd_snoc (l : List Pt) (p : Pt) : bndL (l ++ [p]) = (bndL l).join ⟨p.x, p.y, p.x + 1, p.y + 1⟩ := by
  unfold bndL
  rw [List.foldl_append]
  rfl
theorem v_Bound (r : Reg) (l : List Pt) (m : Mem) (n : Nat) (hr : RPt m n r l) (hl : l.length < 4294967296) (hi : l.all inP = true) : callF TA 23 [r] m n = some (bndL l).r := by
  refine callF_of (Fn_ofK (fn := F23) rfl (by simp [F23]) ?_)
  have hlen := hr.len
  try simp only [r23_0, r23_1, r23_2, r23_3, r23_4, r23_5, r23_6, r23_7, c23, F23, hlen, go_sem, Int.reduceTMod, Int.reduceTDiv, Int.reduceDiv, Int.reduceMod, Int.reduceAdd, Int.reduceSub, Int.reduceMul, Int.reduceNeg, Int.reducePow, Int.reduceEq, ↓reduceIte, Nat.reduceEqDiff, Nat.reduceAdd, Nat.reduceMul, Nat.reduceLeDiff, Nat.reduceSub, Nat.reduceLT, Int.reduceToNat, Int.reduceLT, Int.reduceLE, reduceCtorEq]
  repeat' ((first | refine FK_split (fun h_ => ?_) (fun h_ => ?_) | refine GK_split (fun h_ => ?_) (fun h_ => ?_) | refine ite_both (fun h_ => ?_) (fun h_ => ?_)) <;> (try simp only [decide_eq_true_eq, decide_eq_false_iff_not, Bool.not_true, Bool.not_false, Bool.not_eq_true', Bool.not_eq_false', Bool.not_eq_eq_eq_not, Decidable.not_not] at h_) <;> (try simp only [r23_0, r23_1, r23_2, r23_3, r23_4, r23_5, r23_6, r23_7, c23, F23, hlen, h_, go_sem, Int.reduceTMod, Int.reduceTDiv, Int.reduceDiv, Int.reduceMod, Int.reduceAdd, Int.reduceSub, Int.reduceMul, Int.reduceNeg, Int.reducePow, Int.reduceEq, ↓reduceIte, Nat.reduceEqDiff, Nat.reduceAdd, Nat.reduceMul, Nat.reduceLeDiff, Nat.reduceSub, Nat.reduceLT, Int.reduceToNat, Int.reduceLT, Int.reduceLE, reduceCtorEq]))
  refine XK_iter (inv := fun i s => s.e 8 = RI i ∧ s.e 7 = RI l.length ∧ s.e 6 = r ∧ s.e 2 = .one (.ptr n 0) ∧ s.e 3 = .one (.ptr (n + 1) 0) ∧ n + 2 ≤ s.n ∧ (∀ id, id < n → s.m id = m id) ∧ s.m n = some ⟨[I 0, I 0, I 0, I 0], true⟩ ∧ s.m (n + 1) = some ⟨(bndL (l.take i)).cs, true⟩) l.length
    (fun L _ => ⟨fun i hi' s hs next => ?_, fun s hs => ?_⟩) 0 (by omega) _ ?_
  · obtain ⟨e, M, N⟩ := s
    obtain ⟨q8, q7, q6, q2, q3, qn, qm, qb, qx⟩ := hs
    simp only at q8 q7 q6 q2 q3 qn qm qb qx
    have hp : l[i]? = some l[i] := List.getElem?_eq_getElem hi'
    have hr2 : RPt M N r l := hr.keep (by omega) qm
    obtain ⟨id, off, cap, hr1, hid, hrd⟩ := hr2.at cs2 hp
    have ip : inP ⟨l[i].x, l[i].y⟩ = true := List.all_eq_true.1 hi _ (List.getElem_mem hi')
    have hsn : bndL (l.take (i + 1)) = _ := (congrArg bndL (take_snoc hp)).trans (bnd_snoc _ _)
    generalize l[i] = p at *
    simp only [inP, Bool.and_eq_true, rm_iff] at ip
    have c2 : ((i : Int) < (l.length : Int)) = True := eq_true (by omega)
    have c3 : (0 ≤ (i : Int)) = True := eq_true (by omega)
    have c7 : IntKind.i64.wrap ((i : Int) + 1) = ((i + 1 : Nat) : Int) := wr_nat (by omega)
    have w1 : IntKind.i64.wrap (p.x + 1) = p.x + 1 := wr_eq (by omega) (by omega)
    have w2 : IntKind.i64.wrap (p.y + 1) = p.y + 1 := wr_eq (by omega) (by omega)
    have vj := v_BJoin (bndL (l.take i)) ⟨p.x, p.y, p.x + 1, p.y + 1⟩
    rw [← hsn] at vj
    generalize bndL (l.take (i + 1)) = B1 at *
    generalize bndL (l.take i) = B0 at *
    rw [hr1] at q6
    have n1 := na_0 hid
    have n2 := na_0 (show n + 1 < N by omega)
    have n3 := na_0 (show n < N by omega)
    try simp only [r23_0, r23_1, r23_2, r23_3, r23_4, r23_5, r23_6, r23_7, c23, F23, l23_0, q8, q7, q6, q2, q3, c2, c3, c7, hrd, n1, n2, n3, w1, w2, qx, rd_of qx, vj, Int.toNat_natCast, go_sem, Int.reduceTMod, Int.reduceTDiv, Int.reduceDiv, Int.reduceMod, Int.reduceAdd, Int.reduceSub, Int.reduceMul, Int.reduceNeg, Int.reducePow, Int.reduceEq, ↓reduceIte, Nat.reduceEqDiff, Nat.reduceAdd, Nat.reduceMul, Nat.reduceLeDiff, Nat.reduceSub, Nat.reduceLT, Int.reduceToNat, Int.reduceLT, Int.reduceLE, reduceCtorEq]
    repeat' ((first | refine FK_split (fun h_ => ?_) (fun h_ => ?_) | refine GK_split (fun h_ => ?_) (fun h_ => ?_) | refine ite_both (fun h_ => ?_) (fun h_ => ?_)) <;> (try simp only [decide_eq_true_eq, decide_eq_false_iff_not, Bool.not_true, Bool.not_false, Bool.not_eq_true', Bool.not_eq_false', Bool.not_eq_eq_eq_not, Decidable.not_not] at h_) <;> (try simp only [r23_0, r23_1, r23_2, r23_3, r23_4, r23_5, r23_6, r23_7, c23, F23, l23_0, q8, q7, q6, q2, q3, c2, c3, c7, hrd, n1, n2, n3, w1, w2, qx, rd_of qx, vj, Int.toNat_natCast, h_, go_sem, Int.reduceTMod, Int.reduceTDiv, Int.reduceDiv, Int.reduceMod, Int.reduceAdd, Int.reduceSub, Int.reduceMul, Int.reduceNeg, Int.reducePow, Int.reduceEq, ↓reduceIte, Nat.reduceEqDiff, Nat.reduceAdd, Nat.reduceMul, Nat.reduceLeDiff, Nat.reduceSub, Nat.reduceLT, Int.reduceToNat, Int.reduceLT, Int.reduceLE, reduceCtorEq]))
    refine next _ ⟨?_, ?_, ?_, ?_, ?_, ?_, fun id hid => ?_, ?_, ?_⟩
    · simp only [go_sem, Int.reduceTMod, Int.reduceTDiv, Int.reduceDiv, Int.reduceMod, Int.reduceAdd, Int.reduceSub, Int.reduceMul, Int.reduceNeg, Int.reducePow, Int.reduceEq, ↓reduceIte, Nat.reduceEqDiff, Nat.reduceAdd, Nat.reduceMul, Nat.reduceLeDiff, Nat.reduceSub, Nat.reduceLT, Int.reduceToNat, Int.reduceLT, Int.reduceLE, reduceCtorEq]
    · simp only [q7, go_sem, Int.reduceTMod, Int.reduceTDiv, Int.reduceDiv, Int.reduceMod, Int.reduceAdd, Int.reduceSub, Int.reduceMul, Int.reduceNeg, Int.reducePow, Int.reduceEq, ↓reduceIte, Nat.reduceEqDiff, Nat.reduceAdd, Nat.reduceMul, Nat.reduceLeDiff, Nat.reduceSub, Nat.reduceLT, Int.reduceToNat, Int.reduceLT, Int.reduceLE, reduceCtorEq]
    · simp only [q6, hr1, go_sem, Int.reduceTMod, Int.reduceTDiv, Int.reduceDiv, Int.reduceMod, Int.reduceAdd, Int.reduceSub, Int.reduceMul, Int.reduceNeg, Int.reducePow, Int.reduceEq, ↓reduceIte, Nat.reduceEqDiff, Nat.reduceAdd, Nat.reduceMul, Nat.reduceLeDiff, Nat.reduceSub, Nat.reduceLT, Int.reduceToNat, Int.reduceLT, Int.reduceLE, reduceCtorEq]
    · simp only [q2, go_sem, Int.reduceTMod, Int.reduceTDiv, Int.reduceDiv, Int.reduceMod, Int.reduceAdd, Int.reduceSub, Int.reduceMul, Int.reduceNeg, Int.reducePow, Int.reduceEq, ↓reduceIte, Nat.reduceEqDiff, Nat.reduceAdd, Nat.reduceMul, Nat.reduceLeDiff, Nat.reduceSub, Nat.reduceLT, Int.reduceToNat, Int.reduceLT, Int.reduceLE, reduceCtorEq]
    · simp only [q3, go_sem, Int.reduceTMod, Int.reduceTDiv, Int.reduceDiv, Int.reduceMod, Int.reduceAdd, Int.reduceSub, Int.reduceMul, Int.reduceNeg, Int.reducePow, Int.reduceEq, ↓reduceIte, Nat.reduceEqDiff, Nat.reduceAdd, Nat.reduceMul, Nat.reduceLeDiff, Nat.reduceSub, Nat.reduceLT, Int.reduceToNat, Int.reduceLT, Int.reduceLE, reduceCtorEq]
    · simp only [go_sem, Int.reduceTMod, Int.reduceTDiv, Int.reduceDiv, Int.reduceMod, Int.reduceAdd, Int.reduceSub, Int.reduceMul, Int.reduceNeg, Int.reducePow, Int.reduceEq, ↓reduceIte, Nat.reduceEqDiff, Nat.reduceAdd, Nat.reduceMul, Nat.reduceLeDiff, Nat.reduceSub, Nat.reduceLT, Int.reduceToNat, Int.reduceLT, Int.reduceLE, reduceCtorEq]
      omega
    · simp only [na_0 (show id < N by omega), na_ne (show id < N by omega), go_sem, Int.reduceTMod, Int.reduceTDiv, Int.reduceDiv, Int.reduceMod, Int.reduceAdd, Int.reduceSub, Int.reduceMul, Int.reduceNeg, Int.reducePow, Int.reduceEq, ↓reduceIte, Nat.reduceEqDiff, Nat.reduceAdd, Nat.reduceMul, Nat.reduceLeDiff, Nat.reduceSub, Nat.reduceLT, Int.reduceToNat, Int.reduceLT, Int.reduceLE, reduceCtorEq]
      rw [if_neg (show ¬ id = n + 1 by omega)]
      exact qm id hid
    · simp only [qb, go_sem, Int.reduceTMod, Int.reduceTDiv, Int.reduceDiv, Int.reduceMod, Int.reduceAdd, Int.reduceSub, Int.reduceMul, Int.reduceNeg, Int.reducePow, Int.reduceEq, ↓reduceIte, Nat.reduceEqDiff, Nat.reduceAdd, Nat.reduceMul, Nat.reduceLeDiff, Nat.reduceSub, Nat.reduceLT, Int.reduceToNat, Int.reduceLT, Int.reduceLE, reduceCtorEq]
      rw [if_neg (show ¬ n = N by omega), if_neg (show ¬ n = N by omega)]
    · simp only [go_sem, Int.reduceTMod, Int.reduceTDiv, Int.reduceDiv, Int.reduceMod, Int.reduceAdd, Int.reduceSub, Int.reduceMul, Int.reduceNeg, Int.reducePow, Int.reduceEq, ↓reduceIte, Nat.reduceEqDiff, Nat.reduceAdd, Nat.reduceMul, Nat.reduceLeDiff, Nat.reduceSub, Nat.reduceLT, Int.reduceToNat, Int.reduceLT, Int.reduceLE, reduceCtorEq]
  · obtain ⟨e, M, N⟩ := s
    obtain ⟨q8, q7, q6, q2, q3, qn, qm, qb, qx⟩ := hs
    simp only at q8 q7 q6 q2 q3 qn qm qb qx
    have c2 : ((l.length : Int) < (l.length : Int)) = False := eq_false (by omega)
    rw [List.take_length] at qx
    try simp only [r23_0, r23_1, r23_2, r23_3, r23_4, r23_5, r23_6, r23_7, c23, F23, l23_0, q8, q7, q6, q2, q3, c2, qx, rd_of qx, qb, go_sem, Int.reduceTMod, Int.reduceTDiv, Int.reduceDiv, Int.reduceMod, Int.reduceAdd, Int.reduceSub, Int.reduceMul, Int.reduceNeg, Int.reducePow, Int.reduceEq, ↓reduceIte, Nat.reduceEqDiff, Nat.reduceAdd, Nat.reduceMul, Nat.reduceLeDiff, Nat.reduceSub, Nat.reduceLT, Int.reduceToNat, Int.reduceLT, Int.reduceLE, reduceCtorEq]
    repeat' ((first | refine FK_split (fun h_ => ?_) (fun h_ => ?_) | refine GK_split (fun h_ => ?_) (fun h_ => ?_) | refine ite_both (fun h_ => ?_) (fun h_ => ?_)) <;> (try simp only [decide_eq_true_eq, decide_eq_false_iff_not, Bool.not_true, Bool.not_false, Bool.not_eq_true', Bool.not_eq_false', Bool.not_eq_eq_eq_not, Decidable.not_not] at h_) <;> (try simp only [r23_0, r23_1, r23_2, r23_3, r23_4, r23_5, r23_6, r23_7, c23, F23, l23_0, q8, q7, q6, q2, q3, c2, qx, rd_of qx, qb, h_, go_sem, Int.reduceTMod, Int.reduceTDiv, Int.reduceDiv, Int.reduceMod, Int.reduceAdd, Int.reduceSub, Int.reduceMul, Int.reduceNeg, Int.reducePow, Int.reduceEq, ↓reduceIte, Nat.reduceEqDiff, Nat.reduceAdd, Nat.reduceMul, Nat.reduceLeDiff, Nat.reduceSub, Nat.reduceLT, Int.reduceToNat, Int.reduceLT, Int.reduceLE, reduceCtorEq]))
  · simp only [List.take_zero, go_sem, Int.reduceTMod, Int.reduceTDiv, Int.reduceDiv, Int.reduceMod, Int.reduceAdd, Int.reduceSub, Int.reduceMul, Int.reduceNeg, Int.reducePow, Int.reduceEq, ↓reduceIte, Nat.reduceEqDiff, Nat.reduceAdd, Nat.reduceMul, Nat.reduceLeDiff, Nat.reduceSub, Nat.reduceLT, Int.reduceToNat, Int.reduceLT, Int.reduceLE, reduceCtorEq]
    refine ⟨by omega, fun id hid => ?_, rfl⟩
    rw [if_neg (show ¬ id = n + 1 by omega), if_neg (show ¬ id = n by omega)]

/- All polygons of a pen: what holds of each part. Conditions: those that each theorem names. -/
open Go Go.Proofs
set_option linter.unusedVariables false

theorem pln_mem {l : List Pt} : ∀ {i : Nat} {a : Pt}, a ∈ pln l i → a ∈ l
  | 0, a, h => by cases h
  | i + 1, a, h => by
    rw [pln] at h
    split at h
    · rw [List.mem_append] at h
      rcases h with h | h
      · exact pln_mem h
      · cases hp : l[i]? with
        | none => rw [hp] at h; cases h
        | some p =>
          rw [hp] at h
          simp at h
          subst h
          exact List.mem_of_getElem? hp
    · exact pln_mem h
theorem plain_mem {l : List Pt} {c : Bool} {a : Pt} (h : a ∈ plainL l c) : a ∈ l := by
  unfold plainL at h
  split at h
  · obtain ⟨k, _, e⟩ := dropE_take (pln l l.length)
    rw [e] at h
    exact pln_mem (List.mem_of_mem_take h)
  · exact pln_mem h
theorem barAt_mem {h : Int} {q : List Pt} {i j : Nat} {x : Bool × List Pt} (hx : x ∈ barAt h q i j) : ∃ a b, a ∈ q ∧ b ∈ q ∧ x = barI h a b := by
  unfold barAt at hx
  split at hx
  · rename_i p r e1 e2
    rw [List.mem_singleton] at hx
    exact ⟨p, r, List.mem_of_getElem? e1, List.mem_of_getElem? e2, hx⟩
  · cases hx
theorem barsTo_mem {h : Int} {q : List Pt} : ∀ {i : Nat} {x : Bool × List Pt}, x ∈ barsTo h q i → ∃ a b, a ∈ q ∧ b ∈ q ∧ x = barI h a b
  | 0, x, hx => by cases hx
  | i + 1, x, hx => by
    rw [barsTo, List.mem_append] at hx
    rcases hx with hx | hx
    · exact barsTo_mem hx
    · exact barAt_mem hx
theorem discsTo_mem {h : Int} {q : List Pt} {c : Bool} : ∀ {i : Nat} {x : Bool × List Pt}, x ∈ discsTo h q c i → ∃ a, a ∈ q ∧ x = discI h a
  | 0, x, hx => by cases hx
  | i + 1, x, hx => by
    rw [discsTo, List.mem_append] at hx
    rcases hx with hx | hx
    · exact discsTo_mem hx
    · unfold discAt at hx
      split at hx
      · split at hx
        · rename_i p e1 _
          rw [List.mem_singleton] at hx
          exact ⟨p, List.mem_of_getElem? e1, hx⟩
        · cases hx
      · cases hx
/-- What holds of bars, discs, squares and caps of these points holds of all that a pen leaves. -/
theorem stroke_mem {P : Bool × List Pt → Prop} {q : List Pt} {h : Int} (hb : ∀ a b, a ∈ q → b ∈ q → P (barI h a b)) (hd : ∀ a, a ∈ q → P (discI h a)) (hs : ∀ a, a ∈ q → P (sqI h a))
    (hf : ∀ a b, a ∈ q → b ∈ q → P (firstI h a b)) (hl : ∀ a b, a ∈ q → b ∈ q → P (lastI h a b)) (c : Bool) (cap : Int) : ∀ x ∈ strokeI q c h cap, P x := fun x hx => by
  have d1 : ∀ (i : Nat), x ∈ at1 (fun p => [discI h p]) q i → P x := fun i hy => by
    obtain ⟨p, e, hy⟩ := at1_mem hy
    rw [List.mem_singleton] at hy
    subst hy
    exact hd p (List.mem_of_getElem? e)
  unfold strokeI at hx
  split at hx
  · split at hx
    · exact d1 _ hx
    · split at hx
      · obtain ⟨p, e, hx⟩ := at1_mem hx
        rw [List.mem_singleton] at hx
        subst hx
        exact hs p (List.mem_of_getElem? e)
      · cases hx
  · split at hx
    · rw [List.mem_append] at hx
      rcases hx with hx | hx
      · unfold alongI at hx
        rw [List.mem_append, List.mem_append] at hx
        rcases hx with (hx | hx) | hx
        · obtain ⟨a, b, ha, hb', rfl⟩ := barsTo_mem hx
          exact hb a b ha hb'
        · split at hx
          · obtain ⟨a, b, ha, hb', rfl⟩ := barAt_mem hx
            exact hb a b ha hb'
          · cases hx
        · obtain ⟨a, ha, rfl⟩ := discsTo_mem hx
          exact hd a ha
      · split at hx
        · cases hx
        · split at hx
          · rw [List.mem_append] at hx
            rcases hx with hx | hx
            · exact d1 _ hx
            · exact d1 _ hx
          · split at hx
            · rw [List.mem_append] at hx
              rcases hx with hx | hx
              · obtain ⟨p, r, e1, e2, rfl⟩ := at2_mem hx
                exact hf p r (List.mem_of_getElem? e1) (List.mem_of_getElem? e2)
              · obtain ⟨p, r, e1, e2, rfl⟩ := at2_mem hx
                exact hl p r (List.mem_of_getElem? e1) (List.mem_of_getElem? e2)
            · cases hx
    · cases hx
theorem sq_nn (x : Int) : 0 ≤ x * x := by
  rcases Int.le_total 0 x with h | h
  · exact Int.mul_nonneg h h
  · exact Int.mul_nonneg_of_nonpos_of_nonpos h h
theorem sN_nn (x y : Int) : 0 ≤ sN x y := (isq_spec (Int.add_nonneg (sq_nn x) (sq_nn y))).1
/-- A step is never longer than the half width. -/
theorem step_all (x y : Int) {h : Int} (h0 : 0 ≤ h) (z : Int) (hz : z = x ∨ z = y ∨ z = -y) : -h ≤ rnd (z * h) (sN x y) ∧ rnd (z * h) (sN x y) ≤ h := by
  have hn := Int.add_nonneg (sq_nn x) (sq_nn y)
  have hx := le_isq (z := x) hn (by have := sq_nn y; omega)
  have hy := le_isq (z := y) hn (by have := sq_nn x; omega)
  have hzN : -sN x y ≤ z ∧ z ≤ sN x y := by unfold sN; rcases hz with rfl | rfl | rfl <;> omega
  rcases Int.lt_or_le 0 (sN x y) with hN | hN
  · have k1 : z * h ≤ h * sN x y := by rw [Int.mul_comm h]; exact Int.mul_le_mul_of_nonneg_right hzN.2 (by omega)
    have k2 : -h * sN x y ≤ z * h := by
      have := Int.mul_le_mul_of_nonneg_right hzN.1 (show 0 ≤ h by omega)
      rw [Int.neg_mul, Int.mul_comm] at this
      rw [Int.neg_mul]
      exact this
    exact ⟨rnd_ge (x := z * h) (d := sN x y) (b := -h) hN k2, rnd_le (x := z * h) (d := sN x y) (b := h) hN k1⟩
  · have e : sN x y = 0 := by have := sN_nn x y; omega
    rw [e]
    have : rnd (z * h) 0 = 0 := by unfold rnd; simp
    omega
def nearP (d : Int) (p a : Pt) : Prop := (a.x - d ≤ p.x ∧ p.x ≤ a.x + d) ∧ a.y - d ≤ p.y ∧ p.y ≤ a.y + d
theorem disc_near (a : Pt) {h : Int} (h0 : 0 ≤ h) : ∀ p ∈ disc a.x a.y h, nearP h p a := fun p hp => by
  have key : ∀ k : Int, -65536 ≤ k → k ≤ 65536 → -h ≤ PC h k ∧ PC h k ≤ h := fun k k1 k2 => by
    unfold PC
    refine ⟨rnd_ge (by decide) ?_, rnd_le (by decide) ?_⟩
    · have := Int.mul_le_mul_of_nonneg_right k1 h0
      omega
    · have := Int.mul_le_mul_of_nonneg_right k2 h0
      omega
  have dp : ∀ u v : Int, (-65536 ≤ u ∧ u ≤ 65536) → (-65536 ≤ v ∧ v ≤ 65536) → p = dpt a.x a.y h u v → nearP h p a := fun u v hu hv e => by
    have a1 := key u hu.1 hu.2
    have a2 := key v hv.1 hv.2
    subst e
    unfold nearP dpt
    simp only
    omega
  unfold disc at hp
  simp only [List.mem_cons, List.not_mem_nil, or_false] at hp
  rcases hp with e | e | e | e | e | e | e | e | e | e | e | e | e | e | e | e <;> exact dp _ _ (by omega) (by omega) e
/-- All that a pen leaves lies near the points. -/
theorem stroke_near {q : List Pt} {h : Int} (h0 : 0 ≤ h) (c : Bool) (cap : Int) : ∀ x ∈ strokeI q c h cap, ∀ p ∈ x.2, ∃ a ∈ q, nearP (2 * h) p a := by
  have sd : ∀ a b : Pt, (-h ≤ (sdQ a b h).x ∧ (sdQ a b h).x ≤ h) ∧ -h ≤ (sdQ a b h).y ∧ (sdQ a b h).y ≤ h := fun a b =>
    ⟨step_all (b.x - a.x) (b.y - a.y) h0 _ (Or.inr (Or.inr rfl)), step_all (b.x - a.x) (b.y - a.y) h0 _ (Or.inl rfl)⟩
  have ah : ∀ a b : Pt, (-h ≤ (ahQ a b h).x ∧ (ahQ a b h).x ≤ h) ∧ -h ≤ (ahQ a b h).y ∧ (ahQ a b h).y ≤ h := fun a b =>
    ⟨step_all (b.x - a.x) (b.y - a.y) h0 _ (Or.inl rfl), step_all (b.x - a.x) (b.y - a.y) h0 _ (Or.inr (Or.inl rfl))⟩
  refine stroke_mem (P := fun x => ∀ p ∈ x.2, ∃ a ∈ q, nearP (2 * h) p a) ?_ ?_ ?_ ?_ ?_ c cap
  · intro a b ha hb p hp
    have := sd a b
    simp only [barI, barQ, List.mem_cons, List.not_mem_nil, or_false] at hp
    rcases hp with rfl | rfl | rfl | rfl
    · exact ⟨a, ha, by unfold nearP lsP; simp only; omega⟩
    · exact ⟨b, hb, by unfold nearP lsP; simp only; omega⟩
    · exact ⟨b, hb, by unfold nearP plP; simp only; omega⟩
    · exact ⟨a, ha, by unfold nearP plP; simp only; omega⟩
  · intro a ha p hp
    have := disc_near a h0 p hp
    exact ⟨a, ha, by unfold nearP at this ⊢; omega⟩
  · intro a ha p hp
    simp only [sqI, sqP, List.mem_cons, List.not_mem_nil, or_false] at hp
    refine ⟨a, ha, ?_⟩
    rcases hp with rfl | rfl | rfl | rfl <;> (unfold nearP; simp only; omega)
  · intro a b ha hb p hp
    have := sd a b
    have := ah a b
    simp only [firstI, firstQ, List.mem_cons, List.not_mem_nil, or_false] at hp
    refine ⟨a, ha, ?_⟩
    rcases hp with rfl | rfl | rfl | rfl <;> (unfold nearP; (try unfold lsP); (try unfold plP); simp only; omega)
  · intro a b ha hb p hp
    have := sd a b
    have := ah a b
    simp only [lastI, lastQ, List.mem_cons, List.not_mem_nil, or_false] at hp
    refine ⟨b, hb, ?_⟩
    rcases hp with rfl | rfl | rfl | rfl <;> (unfold nearP; (try unfold plP); (try unfold lsP); simp only; omega)

/- Points told twice; bars of any points; near. Conditions: those that each theorem names. -/
open Go Go.Proofs
set_option linter.unusedSimpArgs false
set_option linter.unusedVariables false

/-- Records more, in a block of its own. -/
theorem K_pushL {T : Nat → Option SFun} {α : Type} {enc : α → List Cell} {sz : Nat} (hsz : ∀ x, (enc x).length = sz) (hpos : 0 < sz) {base n0 n : Nat} {m0 m : Mem} {r0 : Reg} {l ps : List α} {j by' k' : Nat} {o : Bool} {d : Option Nat} {os : List SOper} {e : Nat → Reg} {k : Kt}
    (ho : OL enc sz base m0 n0 r0 l) (hk : ps.length = k') (hk0 : 0 < k') (hn : n0 ≤ n) (hm : ∀ id, base ≤ id → id < n0 → m id = m0 id) (hj : m j = some ⟨ps.flatMap enc, o⟩) (hsm : l.length + k' ≤ 4294967296) (hbase : base ≤ n)
    (next : ∀ c m', OL enc sz base m' (n + 1) (.one c) (l ++ ps) → (∀ id, id < n → sid r0 ≠ some id → m' id = m id) → RK T os (putE e d (.one c)) m' (n + 1) k) :
    ThenK T d os e k (evApp m n sz by' r0 (.one (.sl j 0 k' (some k') sz))) := by
  subst hk
  have hp := flatMap_len enc sz hsz ps
  have hx : newsOf m sz (.one (.sl j 0 ps.length (some ps.length) sz)) = some (ps.length, ps.flatMap enc) := by
    simp only [newsOf, if_true]
    rw [rd_of hj]
    unfold rdB
    rw [if_pos (by rw [hp]; omega), List.drop_zero, ← hp, List.take_length]
    rfl
  rcases ho with ⟨rfl, rfl⟩ | ⟨id, rfl, h2, h3, h4⟩
  · simp only [evApp, hx]
    simp only [List.length_nil] at hsm
    rw [if_neg (by omega), if_pos (by omega)]
    refine next _ _ (Or.inr ⟨n, rfl, hbase, by omega, ?_⟩) (fun id hid _ => upd_ne _ _ (by omega))
    rw [upd_same]
    simp
  · have h5 : m id = some ⟨l.flatMap enc, true⟩ := by rw [hm id h2 h3]; exact h4
    have hl := flatMap_len enc sz hsz l
    have h6 : rd m id 0 (l.length * sz) = some (l.flatMap enc) := by
      rw [rd_of h5]
      unfold rdB
      rw [if_pos (by rw [hl]; omega), List.drop_zero, ← hl, List.take_length]
    simp only [evApp, hx, if_true, h5, h6, Option.map_some, true_and, if_pos hsm]
    refine next _ _ (Or.inr ⟨n, by simp, hbase, by omega, ?_⟩) (fun i hi hs => ?_)
    · rw [upd_same]; simp
    · rw [upd_ne _ _ (by omega), upd_ne _ _ (fun e => hs (by rw [e]; rfl))]
/-- Points told twice. -/
def twL : List Pt → List Pt
  | [] => []
  | p :: l => p :: p :: twL l
theorem twL_append (l l' : List Pt) : twL (l ++ l') = twL l ++ twL l' := by
  induction l with
  | nil => rfl
  | cons p l ih => simp [twL, ih]
theorem twL_len (l : List Pt) : (twL l).length = 2 * l.length := by
  induction l with
  | nil => rfl
  | cons p l ih => simp only [twL, List.length_cons, ih]; omega
theorem twL_all (l : List Pt) : (twL l).all inP = l.all inP := by
  induction l with
  | nil => rfl
  | cons p l ih => simp only [twL, List.all_cons, ih]; cases inP p <;> rfl
theorem twL_at (l : List Pt) : ∀ i, (twL l)[2 * i]? = l[i]? ∧ (twL l)[2 * i + 1]? = l[i]? := by
  induction l with
  | nil => intro i; simp [twL]
  | cons p l ih =>
    intro i
    cases i with
    | zero => simp [twL]
    | succ i =>
      rw [show 2 * (i + 1) = 2 * i + 1 + 1 by omega]
      simp only [twL, List.getElem?_cons_succ]
      exact ih i
theorem pln_tw (l : List Pt) : ∀ i, i ≤ l.length → pln (twL l) (2 * i) = pln l i
  | 0, _ => rfl
  | i + 1, hi => by
    have hp : l[i]? = some (l[i]'(by omega)) := List.getElem?_eq_getElem (by omega)
    generalize (l[i]'(by omega)) = p at hp
    obtain ⟨a1, a2⟩ := twL_at l i
    rw [show 2 * (i + 1) = 2 * i + 1 + 1 by omega, pln_skip (p := p) (a2.trans hp) (by omega) (by rw [show 2 * i + 1 - 1 = 2 * i by omega]; exact a1.trans hp)]
    by_cases h : i = 0 ∨ l[i - 1]? ≠ some p
    · rw [pln_keep hp h, pln_keep (p := p) (a1.trans hp), pln_tw l i (by omega)]
      by_cases h0 : i = 0
      · exact Or.inl (by omega)
      · rcases h with h | h
        · exact absurd h h0
        · refine Or.inr ?_
          have := (twL_at l (i - 1)).2
          rw [show 2 * (i - 1) + 1 = 2 * i - 1 by omega] at this
          rw [this]; exact h
    · have h0 : i ≠ 0 := fun e => h (Or.inl e)
      have h1 : l[i - 1]? = some p := Classical.byContradiction fun e => h (Or.inr e)
      have := (twL_at l (i - 1)).2
      rw [show 2 * (i - 1) + 1 = 2 * i - 1 by omega] at this
      rw [pln_skip hp h0 h1, pln_skip (p := p) (a1.trans hp) (by omega) (this.trans h1), pln_tw l i (by omega)]
theorem plain_tw (l : List Pt) (c : Bool) : plainL (twL l) c = plainL l c := by
  unfold plainL
  rw [twL_len, pln_tw l l.length (Nat.le_refl _)]
/-- What the pen's errors are. -/
def kkOf (its : List (Bool × List Pt)) (good : Bool) : Int := if good = true then (if its.all (·.1) = true then 0 else 10) else 30
def lsOf (its : List (Bool × List Pt)) (good : Bool) : List (List Pt) := if good = true then (if its.all (·.1) = true then its.map (·.2) else []) else []
theorem StrokeQ.uni {l : List Pt} {its : List (Bool × List Pt)} {good : Bool} {n : Nat} {r' : Reg} {m' : Mem} {n' : Nat} (h : StrokeQ l its good n r' m' n') : ∃ x, r' = .tup [x, RI (kkOf its good)] ∧ ∃ pid, n ≤ pid ∧ OPs pid pid pid m' n' x (lsOf its good) := by
  obtain ⟨x, k, rfl, h1, h2, h3⟩ := h
  unfold kkOf lsOf
  cases good
  · obtain ⟨rfl, rfl⟩ := h1 rfl
    exact ⟨_, rfl, n, Nat.le_refl _, OPs.nil⟩
  · cases ha : its.all (·.1)
    · obtain ⟨rfl, rfl⟩ := h2 rfl ha
      exact ⟨_, rfl, n, Nat.le_refl _, OPs.nil⟩
    · obtain ⟨rfl, pid, hp, hO⟩ := h3 rfl ha
      exact ⟨_, rfl, pid, hp, hO⟩
theorem lsOf_len (its : List (Bool × List Pt)) (good : Bool) : (lsOf its good).length ≤ its.length := by
  unfold lsOf
  split
  · split
    · simp
    · simp
  · simp
theorem lsOf_l16 {its : List (Bool × List Pt)} (h : ∀ x ∈ its, x.2.length < 4294967296) (good : Bool) : ∀ l ∈ lsOf its good, l.length < 4294967296 := by
  unfold lsOf
  intro l hl
  split at hl
  · split at hl
    · obtain ⟨z, hz, rfl⟩ := List.mem_map.1 hl
      exact h z hz
    · cases hl
  · cases hl
/-- A bar of any points. -/
def BarAny (a b : Pt) (h : Int) (n : Nat) (r' : Reg) (m' : Mem) (n' : Nat) : Prop := ∃ x k, r' = .tup [.one x, RI k] ∧
    (k = 0 → (inP a = true ∧ inP b = true ∧ a ≠ b ∧ 1 ≤ h ∧ h ≤ 32768 ∧ longQ a b = false ∧ (barQ a b h).all inP = true) ∧ RPt m' n' (.one x) (barQ a b h) ∧ ∀ id, sid (.one x) = some id → n ≤ id)
theorem w_BarAny (a b : Pt) (h : Int) (m : Mem) (n : Nat) : Fn TA 19 [a.r, b.r, RI h] m n (BarAny a b h n) := by
  by_cases g : (1 ≤ h ∧ h ≤ 32768) ∧ inP a = true ∧ inP b = true ∧ a ≠ b
  · obtain ⟨⟨h1, h2⟩, ha, hb, hab⟩ := g
    refine (w_Bar ha hb hab h1 h2 m n).mono ?_
    rintro r m' n' ⟨x, k, rfl, hk, hq⟩
    refine ⟨x, k, rfl, fun h0 => ?_⟩
    cases ho : (!longQ a b && (barQ a b h).all inP)
    · rw [ho] at hk; simp at hk; omega
    · have ho2 := ho
      rw [Bool.and_eq_true, Bool.not_eq_true'] at ho2
      exact ⟨⟨ha, hb, hab, h1, h2, ho2.1, ho2.2⟩, hq ho⟩
  · refine Fn_ofK (fn := F19) rfl (by simp [F19]) ?_
    have bad : ∀ m' n', BarAny a b h n (.tup [rnil, RI 30]) m' n' := fun m' n' => ⟨_, 30, rfl, fun h => absurd h (by decide)⟩
    have va := v_PIn a.x a.y
    have vb := v_PIn b.x b.y
    cases c1 : (decide (1 ≤ h) && decide (h ≤ 32768))
    · skip
      try simp only [r19_0, r19_1, r19_2, r19_3, r19_4, r19_5, r19_6, c19, F19, v_right, c1, go_sem, Int.reduceTMod, Int.reduceTDiv, Int.reduceDiv, Int.reduceMod, Int.reduceAdd, Int.reduceSub, Int.reduceMul, Int.reduceNeg, Int.reducePow, Int.reduceEq, ↓reduceIte, Nat.reduceEqDiff, Nat.reduceAdd, Nat.reduceMul, Nat.reduceLeDiff, Nat.reduceSub, Nat.reduceLT, Int.reduceToNat, Int.reduceLT, Int.reduceLE, reduceCtorEq]
      repeat' ((first | refine FK_split (fun h_ => ?_) (fun h_ => ?_) | refine GK_split (fun h_ => ?_) (fun h_ => ?_) | refine ite_both (fun h_ => ?_) (fun h_ => ?_)) <;> (try simp only [decide_eq_true_eq, decide_eq_false_iff_not, Bool.not_true, Bool.not_false, Bool.not_eq_true', Bool.not_eq_false', Bool.not_eq_eq_eq_not, Decidable.not_not] at h_) <;> (try simp only [r19_0, r19_1, r19_2, r19_3, r19_4, r19_5, r19_6, c19, F19, v_right, c1, h_, go_sem, Int.reduceTMod, Int.reduceTDiv, Int.reduceDiv, Int.reduceMod, Int.reduceAdd, Int.reduceSub, Int.reduceMul, Int.reduceNeg, Int.reducePow, Int.reduceEq, ↓reduceIte, Nat.reduceEqDiff, Nat.reduceAdd, Nat.reduceMul, Nat.reduceLeDiff, Nat.reduceSub, Nat.reduceLT, Int.reduceToNat, Int.reduceLT, Int.reduceLE, reduceCtorEq]))
      exact bad _ _
    · have d1 : 1 ≤ h ∧ h ≤ 32768 := by simpa using c1
      cases c2 : inP ⟨a.x, a.y⟩
      · skip
        try simp only [r19_0, r19_1, r19_2, r19_3, r19_4, r19_5, r19_6, c19, F19, v_right, c1, va, c2, go_sem, Int.reduceTMod, Int.reduceTDiv, Int.reduceDiv, Int.reduceMod, Int.reduceAdd, Int.reduceSub, Int.reduceMul, Int.reduceNeg, Int.reducePow, Int.reduceEq, ↓reduceIte, Nat.reduceEqDiff, Nat.reduceAdd, Nat.reduceMul, Nat.reduceLeDiff, Nat.reduceSub, Nat.reduceLT, Int.reduceToNat, Int.reduceLT, Int.reduceLE, reduceCtorEq]
        repeat' ((first | refine FK_split (fun h_ => ?_) (fun h_ => ?_) | refine GK_split (fun h_ => ?_) (fun h_ => ?_) | refine ite_both (fun h_ => ?_) (fun h_ => ?_)) <;> (try simp only [decide_eq_true_eq, decide_eq_false_iff_not, Bool.not_true, Bool.not_false, Bool.not_eq_true', Bool.not_eq_false', Bool.not_eq_eq_eq_not, Decidable.not_not] at h_) <;> (try simp only [r19_0, r19_1, r19_2, r19_3, r19_4, r19_5, r19_6, c19, F19, v_right, c1, va, c2, h_, go_sem, Int.reduceTMod, Int.reduceTDiv, Int.reduceDiv, Int.reduceMod, Int.reduceAdd, Int.reduceSub, Int.reduceMul, Int.reduceNeg, Int.reducePow, Int.reduceEq, ↓reduceIte, Nat.reduceEqDiff, Nat.reduceAdd, Nat.reduceMul, Nat.reduceLeDiff, Nat.reduceSub, Nat.reduceLT, Int.reduceToNat, Int.reduceLT, Int.reduceLE, reduceCtorEq]))
        exact bad _ _
      · cases c3 : inP ⟨b.x, b.y⟩
        · skip
          try simp only [r19_0, r19_1, r19_2, r19_3, r19_4, r19_5, r19_6, c19, F19, v_right, c1, va, c2, vb, c3, go_sem, Int.reduceTMod, Int.reduceTDiv, Int.reduceDiv, Int.reduceMod, Int.reduceAdd, Int.reduceSub, Int.reduceMul, Int.reduceNeg, Int.reducePow, Int.reduceEq, ↓reduceIte, Nat.reduceEqDiff, Nat.reduceAdd, Nat.reduceMul, Nat.reduceLeDiff, Nat.reduceSub, Nat.reduceLT, Int.reduceToNat, Int.reduceLT, Int.reduceLE, reduceCtorEq]
          repeat' ((first | refine FK_split (fun h_ => ?_) (fun h_ => ?_) | refine GK_split (fun h_ => ?_) (fun h_ => ?_) | refine ite_both (fun h_ => ?_) (fun h_ => ?_)) <;> (try simp only [decide_eq_true_eq, decide_eq_false_iff_not, Bool.not_true, Bool.not_false, Bool.not_eq_true', Bool.not_eq_false', Bool.not_eq_eq_eq_not, Decidable.not_not] at h_) <;> (try simp only [r19_0, r19_1, r19_2, r19_3, r19_4, r19_5, r19_6, c19, F19, v_right, c1, va, c2, vb, c3, h_, go_sem, Int.reduceTMod, Int.reduceTDiv, Int.reduceDiv, Int.reduceMod, Int.reduceAdd, Int.reduceSub, Int.reduceMul, Int.reduceNeg, Int.reducePow, Int.reduceEq, ↓reduceIte, Nat.reduceEqDiff, Nat.reduceAdd, Nat.reduceMul, Nat.reduceLeDiff, Nat.reduceSub, Nat.reduceLT, Int.reduceToNat, Int.reduceLT, Int.reduceLE, reduceCtorEq]))
          exact bad _ _
        · have hab : a = b := Classical.byContradiction fun e => g ⟨d1, c2, c3, e⟩
          have he := pt_eb hab
          try simp only [r19_0, r19_1, r19_2, r19_3, r19_4, r19_5, r19_6, c19, F19, v_right, c1, va, c2, vb, c3, he, go_sem, Int.reduceTMod, Int.reduceTDiv, Int.reduceDiv, Int.reduceMod, Int.reduceAdd, Int.reduceSub, Int.reduceMul, Int.reduceNeg, Int.reducePow, Int.reduceEq, ↓reduceIte, Nat.reduceEqDiff, Nat.reduceAdd, Nat.reduceMul, Nat.reduceLeDiff, Nat.reduceSub, Nat.reduceLT, Int.reduceToNat, Int.reduceLT, Int.reduceLE, reduceCtorEq]
          repeat' ((first | refine FK_split (fun h_ => ?_) (fun h_ => ?_) | refine GK_split (fun h_ => ?_) (fun h_ => ?_) | refine ite_both (fun h_ => ?_) (fun h_ => ?_)) <;> (try simp only [decide_eq_true_eq, decide_eq_false_iff_not, Bool.not_true, Bool.not_false, Bool.not_eq_true', Bool.not_eq_false', Bool.not_eq_eq_eq_not, Decidable.not_not] at h_) <;> (try simp only [r19_0, r19_1, r19_2, r19_3, r19_4, r19_5, r19_6, c19, F19, v_right, c1, va, c2, vb, c3, he, h_, go_sem, Int.reduceTMod, Int.reduceTDiv, Int.reduceDiv, Int.reduceMod, Int.reduceAdd, Int.reduceSub, Int.reduceMul, Int.reduceNeg, Int.reducePow, Int.reduceEq, ↓reduceIte, Nat.reduceEqDiff, Nat.reduceAdd, Nat.reduceMul, Nat.reduceLeDiff, Nat.reduceSub, Nat.reduceLT, Int.reduceToNat, Int.reduceLT, Int.reduceLE, reduceCtorEq]))
          exact bad _ _
theorem v_near (p q : Pt) (hx : -1 ≤ p.x - q.x ∧ p.x - q.x ≤ 1) (hy : -1 ≤ p.y - q.y ∧ p.y - q.y ≤ 1) (m : Mem) (n : Nat) : callF TA 20 [.agg [I p.x, I p.y], .agg [I q.x, I q.y]] m n = some (RB true) := by
  have a1 : IntKind.i64.wrap (p.x - q.x) = p.x - q.x := wr_eq (by omega) (by omega)
  have a2 : IntKind.i64.wrap (q.x - p.x) = q.x - p.x := wr_eq (by omega) (by omega)
  have a3 : IntKind.i64.wrap (p.y - q.y) = p.y - q.y := wr_eq (by omega) (by omega)
  have a4 : IntKind.i64.wrap (q.y - p.y) = q.y - p.y := wr_eq (by omega) (by omega)
  have b1 : (p.x - q.x ≤ 1) = True := eq_true (by omega)
  have b2 : (q.x - p.x ≤ 1) = True := eq_true (by omega)
  have b3 : (p.y - q.y ≤ 1) = True := eq_true (by omega)
  have b4 : (q.y - p.y ≤ 1) = True := eq_true (by omega)
  refine callF_of (Fn_ofK (fn := F20) rfl (by simp [F20]) ?_)
  try simp only [r20_0, r20_1, c20, F20, a1, a2, a3, a4, b1, b2, b3, b4, go_sem, Int.reduceTMod, Int.reduceTDiv, Int.reduceDiv, Int.reduceMod, Int.reduceAdd, Int.reduceSub, Int.reduceMul, Int.reduceNeg, Int.reducePow, Int.reduceEq, ↓reduceIte, Nat.reduceEqDiff, Nat.reduceAdd, Nat.reduceMul, Nat.reduceLeDiff, Nat.reduceSub, Nat.reduceLT, Int.reduceToNat, Int.reduceLT, Int.reduceLE, reduceCtorEq]
  repeat' ((first | refine FK_split (fun h_ => ?_) (fun h_ => ?_) | refine GK_split (fun h_ => ?_) (fun h_ => ?_) | refine ite_both (fun h_ => ?_) (fun h_ => ?_)) <;> (try simp only [decide_eq_true_eq, decide_eq_false_iff_not, Bool.not_true, Bool.not_false, Bool.not_eq_true', Bool.not_eq_false', Bool.not_eq_eq_eq_not, Decidable.not_not] at h_) <;> (try simp only [r20_0, r20_1, c20, F20, a1, a2, a3, a4, b1, b2, b3, b4, h_, go_sem, Int.reduceTMod, Int.reduceTDiv, Int.reduceDiv, Int.reduceMod, Int.reduceAdd, Int.reduceSub, Int.reduceMul, Int.reduceNeg, Int.reducePow, Int.reduceEq, ↓reduceIte, Nat.reduceEqDiff, Nat.reduceAdd, Nat.reduceMul, Nat.reduceLeDiff, Nat.reduceSub, Nat.reduceLT, Int.reduceToNat, Int.reduceLT, Int.reduceLE, reduceCtorEq]))
theorem rnd_neg {x d : Int} (hd : 0 < d) : 0 ≤ rnd x d + rnd (-x) d ∧ rnd x d + rnd (-x) d ≤ 1 := by
  unfold rnd
  have h1 := Int.mul_ediv_add_emod (2 * x + d) (2 * d)
  have h2 := Int.mul_ediv_add_emod (2 * -x + d) (2 * d)
  have a1 := Int.emod_nonneg (2 * x + d) (show 2 * d ≠ 0 by omega)
  have a2 := Int.emod_lt_of_pos (2 * x + d) (show 0 < 2 * d by omega)
  have b1 := Int.emod_nonneg (2 * -x + d) (show 2 * d ≠ 0 by omega)
  have b2 := Int.emod_lt_of_pos (2 * -x + d) (show 0 < 2 * d by omega)
  generalize (2 * x + d) / (2 * d) = u at *
  generalize (2 * -x + d) / (2 * d) = v at *
  have e : 2 * d * (u + v) = 2 * d * u + 2 * d * v := Int.mul_add _ _ _
  constructor
  · rcases Int.lt_or_le (u + v) 0 with h | h
    · have := Int.mul_le_mul_of_nonneg_left (show u + v ≤ -1 by omega) (show 0 ≤ 2 * d by omega)
      omega
    · exact h
  · rcases Int.lt_or_le 1 (u + v) with h | h
    · have := Int.mul_le_mul_of_nonneg_left (show 2 ≤ u + v by omega) (show 0 ≤ 2 * d by omega)
      omega
    · exact h
theorem sN_pos {x y : Int} (hl : longB x y = false) (hne : x ≠ 0 ∨ y ≠ 0) : 0 < sN x y := (step_bd (h := 1) hl hne (by decide) (by decide)).1.1
theorem step_h {x y h : Int} (hl : longB x y = false) (hne : x ≠ 0 ∨ y ≠ 0) (h0 : 0 ≤ h) (z : Int) (hz : z = x ∨ z = y ∨ z = -y) : -h ≤ rnd (z * h) (sN x y) ∧ rnd (z * h) (sN x y) ≤ h := by
  have sq := sq_bd hl
  have hn : 0 ≤ x * x + y * y := by omega
  have hx := le_isq (z := x) hn (by omega)
  have hy := le_isq (z := y) hn (by omega)
  have hN := sN_pos hl hne
  have hzN : -sN x y ≤ z ∧ z ≤ sN x y := by unfold sN; rcases hz with rfl | rfl | rfl <;> omega
  have k1 : z * h ≤ h * sN x y := by rw [Int.mul_comm h]; exact Int.mul_le_mul_of_nonneg_right hzN.2 (by omega)
  have k2 : -h * sN x y ≤ z * h := by
    have := Int.mul_le_mul_of_nonneg_right hzN.1 (show 0 ≤ h by omega)
    rw [Int.neg_mul, Int.mul_comm] at this
    rw [Int.neg_mul]
    exact this
  exact ⟨rnd_ge (x := z * h) (d := sN x y) (b := -h) (by omega) k2, rnd_le (x := z * h) (d := sN x y) (b := h) (by omega) k1⟩

/- The law StrokeReach walked. Conditions: those that each theorem names. -/
open Go Go.Proofs
set_option linter.unusedSimpArgs false
set_option linter.unusedVariables false

theorem RPt.safe {m : Mem} {n : Nat} {c : Cell} {l : List Pt} (hr : RPt m n (.one c) l) : safeC m c = true := by
  rcases hr with ⟨h, _⟩ | ⟨id, off, cap, h, h2, h3⟩
  · simp only [Reg.one.injEq] at h
    subst h
    rfl
  · simp only [Reg.one.injEq] at h
    subst h
    show (m id).isSome = true
    unfold rd at h3
    cases hm : m id with
    | none => rw [hm] at h3; simp at h3
    | some b => rfl
theorem reach_has {l : List Pt} (hi : l.all inP = true) {c : Bool} {h cap : Int} (h1 : 1 ≤ h) (h2 : h ≤ 32768) : ∀ x ∈ strokeI (plainL l c) c h cap, ∀ p ∈ x.2, (reachB (bndL l) h).has p = true := fun x hx p hp => by
  obtain ⟨a, ha, hn⟩ := stroke_near (by omega) c cap x hx p hp
  have hal := plain_mem ha
  obtain ⟨b1, b2, b3⟩ := bnd_spec l hi
  have hb := b1 (fun e => by rw [e] at hal; cases hal)
  have hin := b2 a hal
  have ia : inP ⟨a.x, a.y⟩ = true := List.all_eq_true.1 hi a hal
  simp only [inP, Bool.and_eq_true, rm_iff] at ia
  unfold reachB
  rw [hb]
  generalize bndL l = B at *
  unfold nearP at hn
  have w1 : IntKind.i64.wrap (B.x0 - 2 * h) = B.x0 - 2 * h := wr_eq (by omega) (by omega)
  have w2 : IntKind.i64.wrap (B.y0 - 2 * h) = B.y0 - 2 * h := wr_eq (by omega) (by omega)
  have w3 : IntKind.i64.wrap (B.x1 + 2 * h) = B.x1 + 2 * h := wr_eq (by omega) (by omega)
  have w4 : IntKind.i64.wrap (B.y1 + 2 * h) = B.y1 + 2 * h := wr_eq (by omega) (by omega)
  simp only [Bool.false_eq_true, if_false, w1, w2, w3, w4, Bx.has, Bool.and_eq_true, decide_eq_true_eq]
  omega
set_option maxHeartbeats 4000000 in
theorem law7 (c0 : Cell) (l : List Pt) (c : Bool) (h cap : Int) (B : Bx) (m : Mem) (n : Nat) (hr : RPt m n (.one c0) l) (h0n : 0 < n) (o : Bool) (hm0 : m 0 = some ⟨cosT, o⟩) : Fn TA 7 [.agg [c0, .sc (.bool c), I h, I cap, I B.x0, I B.y0, I B.x1, I B.y1]] m n (fun r _ _ => r = RB true) := by
  refine Fn_ofK (fn := F7) rfl (by simp [F7]) ?_
  have hlen := hr.len
  have z0 := na_0 h0n
  have sc : ∀ b, safeC (upd m n (some b)) c0 = true := fun b => RPt.safe (hr.keep (Nat.le_refl _) (fun id hid => upd_ne _ _ (by omega)))
  have ss : ∀ (m : Mem) v, safeC m (.sc v) = true := fun _ _ => rfl
  by_cases g : 20 < (l.length : Int)
  · skip
    try simp only [r7_0, r7_1, r7_2, r7_3, r7_4, r7_5, r7_6, r7_7, r7_8, r7_9, r7_10, r7_11, r7_12, r7_13, r7_14, r7_15, r7_16, r7_17, r7_18, r7_19, r7_20, r7_21, r7_22, c7, F7, ss, sc, Bool.or_true, hlen, g, v_awake07, go_sem, Int.reduceTMod, Int.reduceTDiv, Int.reduceDiv, Int.reduceMod, Int.reduceAdd, Int.reduceSub, Int.reduceMul, Int.reduceNeg, Int.reducePow, Int.reduceEq, ↓reduceIte, Nat.reduceEqDiff, Nat.reduceAdd, Nat.reduceMul, Nat.reduceLeDiff, Nat.reduceSub, Nat.reduceLT, Int.reduceToNat, Int.reduceLT, Int.reduceLE, reduceCtorEq]
    repeat' ((first | refine FK_split (fun h_ => ?_) (fun h_ => ?_) | refine GK_split (fun h_ => ?_) (fun h_ => ?_) | refine ite_both (fun h_ => ?_) (fun h_ => ?_)) <;> (try simp only [decide_eq_true_eq, decide_eq_false_iff_not, Bool.not_true, Bool.not_false, Bool.not_eq_true', Bool.not_eq_false', Bool.not_eq_eq_eq_not, Decidable.not_not] at h_) <;> (try simp only [r7_0, r7_1, r7_2, r7_3, r7_4, r7_5, r7_6, r7_7, r7_8, r7_9, r7_10, r7_11, r7_12, r7_13, r7_14, r7_15, r7_16, r7_17, r7_18, r7_19, r7_20, r7_21, r7_22, c7, F7, ss, sc, Bool.or_true, hlen, g, v_awake07, h_, go_sem, Int.reduceTMod, Int.reduceTDiv, Int.reduceDiv, Int.reduceMod, Int.reduceAdd, Int.reduceSub, Int.reduceMul, Int.reduceNeg, Int.reducePow, Int.reduceEq, ↓reduceIte, Nat.reduceEqDiff, Nat.reduceAdd, Nat.reduceMul, Nat.reduceLeDiff, Nat.reduceSub, Nat.reduceLT, Int.reduceToNat, Int.reduceLT, Int.reduceLE, reduceCtorEq]))
  · by_cases g1 : h < 1
    · skip
      try simp only [r7_0, r7_1, r7_2, r7_3, r7_4, r7_5, r7_6, r7_7, r7_8, r7_9, r7_10, r7_11, r7_12, r7_13, r7_14, r7_15, r7_16, r7_17, r7_18, r7_19, r7_20, r7_21, r7_22, c7, F7, ss, sc, Bool.or_true, hlen, g, g1, v_awake07, go_sem, Int.reduceTMod, Int.reduceTDiv, Int.reduceDiv, Int.reduceMod, Int.reduceAdd, Int.reduceSub, Int.reduceMul, Int.reduceNeg, Int.reducePow, Int.reduceEq, ↓reduceIte, Nat.reduceEqDiff, Nat.reduceAdd, Nat.reduceMul, Nat.reduceLeDiff, Nat.reduceSub, Nat.reduceLT, Int.reduceToNat, Int.reduceLT, Int.reduceLE, reduceCtorEq]
      repeat' ((first | refine FK_split (fun h_ => ?_) (fun h_ => ?_) | refine GK_split (fun h_ => ?_) (fun h_ => ?_) | refine ite_both (fun h_ => ?_) (fun h_ => ?_)) <;> (try simp only [decide_eq_true_eq, decide_eq_false_iff_not, Bool.not_true, Bool.not_false, Bool.not_eq_true', Bool.not_eq_false', Bool.not_eq_eq_eq_not, Decidable.not_not] at h_) <;> (try simp only [r7_0, r7_1, r7_2, r7_3, r7_4, r7_5, r7_6, r7_7, r7_8, r7_9, r7_10, r7_11, r7_12, r7_13, r7_14, r7_15, r7_16, r7_17, r7_18, r7_19, r7_20, r7_21, r7_22, c7, F7, ss, sc, Bool.or_true, hlen, g, g1, v_awake07, h_, go_sem, Int.reduceTMod, Int.reduceTDiv, Int.reduceDiv, Int.reduceMod, Int.reduceAdd, Int.reduceSub, Int.reduceMul, Int.reduceNeg, Int.reducePow, Int.reduceEq, ↓reduceIte, Nat.reduceEqDiff, Nat.reduceAdd, Nat.reduceMul, Nat.reduceLeDiff, Nat.reduceSub, Nat.reduceLT, Int.reduceToNat, Int.reduceLT, Int.reduceLE, reduceCtorEq]))
    · by_cases g2 : 32768 < h
      · skip
        try simp only [r7_0, r7_1, r7_2, r7_3, r7_4, r7_5, r7_6, r7_7, r7_8, r7_9, r7_10, r7_11, r7_12, r7_13, r7_14, r7_15, r7_16, r7_17, r7_18, r7_19, r7_20, r7_21, r7_22, c7, F7, ss, sc, Bool.or_true, hlen, g, g1, g2, v_awake07, go_sem, Int.reduceTMod, Int.reduceTDiv, Int.reduceDiv, Int.reduceMod, Int.reduceAdd, Int.reduceSub, Int.reduceMul, Int.reduceNeg, Int.reducePow, Int.reduceEq, ↓reduceIte, Nat.reduceEqDiff, Nat.reduceAdd, Nat.reduceMul, Nat.reduceLeDiff, Nat.reduceSub, Nat.reduceLT, Int.reduceToNat, Int.reduceLT, Int.reduceLE, reduceCtorEq]
        repeat' ((first | refine FK_split (fun h_ => ?_) (fun h_ => ?_) | refine GK_split (fun h_ => ?_) (fun h_ => ?_) | refine ite_both (fun h_ => ?_) (fun h_ => ?_)) <;> (try simp only [decide_eq_true_eq, decide_eq_false_iff_not, Bool.not_true, Bool.not_false, Bool.not_eq_true', Bool.not_eq_false', Bool.not_eq_eq_eq_not, Decidable.not_not] at h_) <;> (try simp only [r7_0, r7_1, r7_2, r7_3, r7_4, r7_5, r7_6, r7_7, r7_8, r7_9, r7_10, r7_11, r7_12, r7_13, r7_14, r7_15, r7_16, r7_17, r7_18, r7_19, r7_20, r7_21, r7_22, c7, F7, ss, sc, Bool.or_true, hlen, g, g1, g2, v_awake07, h_, go_sem, Int.reduceTMod, Int.reduceTDiv, Int.reduceDiv, Int.reduceMod, Int.reduceAdd, Int.reduceSub, Int.reduceMul, Int.reduceNeg, Int.reducePow, Int.reduceEq, ↓reduceIte, Nat.reduceEqDiff, Nat.reduceAdd, Nat.reduceMul, Nat.reduceLeDiff, Nat.reduceSub, Nat.reduceLT, Int.reduceToNat, Int.reduceLT, Int.reduceLE, reduceCtorEq]))
      · have h1 : 1 ≤ h := by omega
        have h2 : h ≤ 32768 := by omega
        have vr := v_Reach B h1 h2
        have w : IntKind.i64.wrap (2 * h) = 2 * h := wr_eq (by omega) (by omega)
        have eb : B.emp = (decide (B.x1 ≤ B.x0) || decide (B.y1 ≤ B.y0)) := rfl
        unfold reachB at vr
        rw [eb] at vr
        have tail : ∀ e : Nat → Reg, e 1 = .one (.ptr n 0) → e 3 = .one (.ptr (n + 1) 0) → e 4 = RI h → RK TA r7_8 e (upd (upd (upd (upd (upd m n (some ⟨[c0, .sc (.bool c), I h, I cap, I B.x0, I B.y0, I B.x1, I B.y1], true⟩)) (n + 1) (some ⟨[.sc (.slice none 0 0), .sc (.bool false)], true⟩)) (n + 2) (some ⟨[I 0, I 0, I 0, I 0], true⟩)) (n + 1) (some ⟨[c0, .sc (.bool c)], true⟩)) (n + 2) (some ⟨[I B.x0, I B.y0, I B.x1, I B.y1], true⟩)) (n + 3)
            (Kt.seq (.seq (.seq (.reg r7_9) (.cond (.t 115) (.seq (.reg r7_10) .ret) .skip)) (.seq (.reg r7_11) (.seq (.seq (.reg r7_12) (.block 0 (.loop l7_1))) (.seq (.reg r7_22) .ret)))) (Kt.fin [SRes.tmp 2] fun r _ _ => r = RB true)) := by
          intro e e1 e3 e4
          obtain ⟨M, hM⟩ : ∃ M, M = (upd (upd (upd (upd (upd m n (some ⟨[c0, .sc (.bool c), I h, I cap, I B.x0, I B.y0, I B.x1, I B.y1], true⟩)) (n + 1) (some ⟨[.sc (.slice none 0 0), .sc (.bool false)], true⟩)) (n + 2) (some ⟨[I 0, I 0, I 0, I 0], true⟩)) (n + 1) (some ⟨[c0, .sc (.bool c)], true⟩)) (n + 2) (some ⟨[I B.x0, I B.y0, I B.x1, I B.y1], true⟩)) := ⟨_, rfl⟩
          rw [← hM]
          have hb1 : M n = some ⟨[c0, .sc (.bool c), I h, I cap, I B.x0, I B.y0, I B.x1, I B.y1], true⟩ := by rw [hM, upd_ne _ _ (by omega), upd_ne _ _ (by omega), upd_ne _ _ (by omega), upd_ne _ _ (by omega), upd_same]
          have hb2 : M (n + 1) = some ⟨[c0, .sc (.bool c)], true⟩ := by rw [hM, upd_ne _ _ (by omega), upd_same]
          have hf : ∀ id, id < n → M id = m id := fun id hid => by rw [hM, upd_ne _ _ (by omega), upd_ne _ _ (by omega), upd_ne _ _ (by omega), upd_ne _ _ (by omega), upd_ne _ _ (by omega)]
          have hz : M 0 = some ⟨cosT, o⟩ := by rw [hf 0 h0n]; exact hm0
          have hr1 : RPt M (n + 3) (.one c0) l := hr.keep (by omega) hf
          clear hM
          try simp only [r7_8, e1, e3, e4, hb1, rd_of hb1, hb2, rd_of hb2, go_sem, Int.reduceTMod, Int.reduceTDiv, Int.reduceDiv, Int.reduceMod, Int.reduceAdd, Int.reduceSub, Int.reduceMul, Int.reduceNeg, Int.reducePow, Int.reduceEq, ↓reduceIte, Nat.reduceEqDiff, Nat.reduceAdd, Nat.reduceMul, Nat.reduceLeDiff, Nat.reduceSub, Nat.reduceLT, Int.reduceToNat, Int.reduceLT, Int.reduceLE, reduceCtorEq]
          repeat' ((first | refine FK_split (fun h_ => ?_) (fun h_ => ?_) | refine GK_split (fun h_ => ?_) (fun h_ => ?_) | refine ite_both (fun h_ => ?_) (fun h_ => ?_)) <;> (try simp only [decide_eq_true_eq, decide_eq_false_iff_not, Bool.not_true, Bool.not_false, Bool.not_eq_true', Bool.not_eq_false', Bool.not_eq_eq_eq_not, Decidable.not_not] at h_) <;> (try simp only [r7_8, e1, e3, e4, hb1, rd_of hb1, hb2, rd_of hb2, h_, go_sem, Int.reduceTMod, Int.reduceTDiv, Int.reduceDiv, Int.reduceMod, Int.reduceAdd, Int.reduceSub, Int.reduceMul, Int.reduceNeg, Int.reducePow, Int.reduceEq, ↓reduceIte, Nat.reduceEqDiff, Nat.reduceAdd, Nat.reduceMul, Nat.reduceLeDiff, Nat.reduceSub, Nat.reduceLT, Int.reduceToNat, Int.reduceLT, Int.reduceLE, reduceCtorEq]))
          refine RK_callk ?_
          refine (w_Stroke (c := c) (h := h) (cap := cap) (o := false) hr1.frz (by omega) (by omega) (by rw [frz_at, hz]; rfl)).mono ?_
          intro r1 m1 n1 hq1
          obtain ⟨u1, rfl, p1, hp1, hO1⟩ := hq1.uni
          obtain ⟨M1, hM1⟩ : ∃ M1, M1 = unfrz M (n + 3) m1 := ⟨_, rfl⟩
          obtain ⟨N1, hN1⟩ : ∃ N1, N1 = max (n + 3) n1 := ⟨_, rfl⟩
          rw [← hM1, ← hN1]
          have hf1 : ∀ id, id < n + 3 → M1 id = M id := fun id hid => by rw [hM1, unfrz_at, if_pos hid]
          have hb3 : M1 (n + 1) = some ⟨[c0, .sc (.bool c)], true⟩ := by rw [hf1 _ (by omega)]; exact hb2
          have hr2 : RPt M1 N1 (.one c0) l := hr1.keep (by omega) hf1
          have hA1 := hO1.keep (m' := M1) (n' := N1) (by omega) (fun id a b _ _ => by rw [hM1, unfrz_at, if_neg (by omega)])
          by_cases hk : kkOf (strokeI (plainL l c) c h cap) (decide ((1 ≤ h ∧ h ≤ 32768) ∧ 0 ≤ cap ∧ cap ≤ 2) && l.all inP) = 0
          · have hgi : (decide ((1 ≤ h ∧ h ≤ 32768) ∧ 0 ≤ cap ∧ cap ≤ 2) && l.all inP) = true := by
              cases hg : (decide ((1 ≤ h ∧ h ≤ 32768) ∧ 0 ≤ cap ∧ cap ≤ 2) && l.all inP)
              · rw [hg] at hk; unfold kkOf at hk; simp at hk
              · rfl
            have hi : l.all inP = true := by rw [Bool.and_eq_true] at hgi; exact hgi.2
            have hl1 := lsOf_len (strokeI (plainL l c) c h cap) (decide ((1 ≤ h ∧ h ≤ 32768) ∧ 0 ≤ cap ∧ cap ≤ 2) && l.all inP)
            have hl2 := stroke_len h (plainL l c) c cap
            have hl3 := plain_len l c
            have hls := lsOf_l16 (stroke_l16 h (plainL l c) c cap) (decide ((1 ≤ h ∧ h ≤ 32768) ∧ 0 ≤ cap ∧ cap ≤ 2) && l.all inP)
            have hhas : ∀ lp ∈ lsOf (strokeI (plainL l c) c h cap) (decide ((1 ≤ h ∧ h ≤ 32768) ∧ 0 ≤ cap ∧ cap ≤ 2) && l.all inP), ∀ p ∈ lp, (reachB (bndL l) h).has p = true := fun lp hlp p hp => by
              unfold lsOf at hlp
              rw [hgi, if_pos rfl] at hlp
              split at hlp
              · obtain ⟨x, hx, rfl⟩ := List.mem_map.1 hlp
                exact reach_has hi h1 h2 x hx p hp
              · cases hlp
            rw [hk]
            clear hO1 hq1
            generalize lsOf (strokeI (plainL l c) c h cap) (decide ((1 ≤ h ∧ h ≤ 32768) ∧ 0 ≤ cap ∧ cap ≤ 2) && l.all inP) = ls at *
            have vb := v_Bound (.one c0) l (frz M1) N1 hr2.frz (by omega) hi
            have vr2 := v_Reach (bndL l) h1 h2
            generalize bndL l = BB at *
            generalize reachB BB h = RB2 at *
            have hlA := hA1.len
            obtain ⟨M2, hM2⟩ : ∃ M2, M2 = upd M1 N1 (some ⟨RB2.cs, true⟩) := ⟨_, rfl⟩
            have hf2 : ∀ id, id < N1 → M2 id = M1 id := fun id hid => by rw [hM2]; exact upd_ne _ _ (by omega)
            have hA2 := hA1.keep (m' := M2) (n' := N1 + 1) (by omega) (fun id a b _ _ => hf2 id b)
            have hbx : M2 N1 = some ⟨RB2.cs, true⟩ := by rw [hM2]; exact upd_same _ _ _
            have hll : ls.length < 4294967296 := by omega
            try simp only [r7_9, r7_10, r7_11, r7_12, r7_22, e3, e4, hb3, rd_of hb3, vb, vr2, hlA, go_sem, Int.reduceTMod, Int.reduceTDiv, Int.reduceDiv, Int.reduceMod, Int.reduceAdd, Int.reduceSub, Int.reduceMul, Int.reduceNeg, Int.reducePow, Int.reduceEq, ↓reduceIte, Nat.reduceEqDiff, Nat.reduceAdd, Nat.reduceMul, Nat.reduceLeDiff, Nat.reduceSub, Nat.reduceLT, Int.reduceToNat, Int.reduceLT, Int.reduceLE, reduceCtorEq]
            repeat' ((first | refine FK_split (fun h_ => ?_) (fun h_ => ?_) | refine GK_split (fun h_ => ?_) (fun h_ => ?_) | refine ite_both (fun h_ => ?_) (fun h_ => ?_)) <;> (try simp only [decide_eq_true_eq, decide_eq_false_iff_not, Bool.not_true, Bool.not_false, Bool.not_eq_true', Bool.not_eq_false', Bool.not_eq_eq_eq_not, Decidable.not_not] at h_) <;> (try simp only [r7_9, r7_10, r7_11, r7_12, r7_22, e3, e4, hb3, rd_of hb3, vb, vr2, hlA, h_, go_sem, Int.reduceTMod, Int.reduceTDiv, Int.reduceDiv, Int.reduceMod, Int.reduceAdd, Int.reduceSub, Int.reduceMul, Int.reduceNeg, Int.reducePow, Int.reduceEq, ↓reduceIte, Nat.reduceEqDiff, Nat.reduceAdd, Nat.reduceMul, Nat.reduceLeDiff, Nat.reduceSub, Nat.reduceLT, Int.reduceToNat, Int.reduceLT, Int.reduceLE, reduceCtorEq]))
            rw [upd_upd, ← hM2]
            refine XK_iter (inv := fun i s => s.e 124 = RI i ∧ s.e 123 = RI ls.length ∧ s.e 122 = u1 ∧ s.e 10 = .one (.ptr N1 0) ∧ N1 + 1 ≤ s.n ∧ ∀ id, id < N1 + 1 → s.m id = M2 id) ls.length
              (fun L _ => ⟨fun i hi' s hs' next => ?_, fun s hs' => ?_⟩) 0 (by omega) _ ⟨?_, ?_, ?_, ?_, Nat.le_refl _, fun _ _ => rfl⟩
            · obtain ⟨e, M3, N3⟩ := s
              obtain ⟨q124, q123, q122, q10, qn, qm⟩ := hs'
              simp only at q124 q123 q122 q10 qn qm
              have hp : ls[i]? = some ls[i] := List.getElem?_eq_getElem hi'
              have hA3 := hA2.keep (m' := M3) (n' := N3) qn (fun id a b _ _ => qm id b)
              obtain ⟨id, b, d, hro, hid, hb, hc, hrc⟩ := hA3.at hp
              have hsl := hls ls[i] (List.getElem_mem hi')
              have hhp := hhas ls[i] (List.getElem_mem hi')
              have hlp := hrc.len
              have c2 : ((i : Int) < (ls.length : Int)) = True := eq_true (by omega)
              have c3 : (0 ≤ (i : Int)) = True := eq_true (by omega)
              have c7 : IntKind.i64.wrap ((i : Int) + 1) = ((i + 1 : Nat) : Int) := wr_nat (by omega)
              rw [hro] at q122
              generalize ls[i] = lp at *
              try simp only [r7_13, r7_14, r7_15, r7_21, l7_1, q124, q123, q122, c2, c3, hb, hc, hlp, Int.toNat_natCast, Nat.mul_one, Nat.zero_add, go_sem, Int.reduceTMod, Int.reduceTDiv, Int.reduceDiv, Int.reduceMod, Int.reduceAdd, Int.reduceSub, Int.reduceMul, Int.reduceNeg, Int.reducePow, Int.reduceEq, ↓reduceIte, Nat.reduceEqDiff, Nat.reduceAdd, Nat.reduceMul, Nat.reduceLeDiff, Nat.reduceSub, Nat.reduceLT, Int.reduceToNat, Int.reduceLT, Int.reduceLE, reduceCtorEq]
              repeat' ((first | refine FK_split (fun h_ => ?_) (fun h_ => ?_) | refine GK_split (fun h_ => ?_) (fun h_ => ?_) | refine ite_both (fun h_ => ?_) (fun h_ => ?_)) <;> (try simp only [decide_eq_true_eq, decide_eq_false_iff_not, Bool.not_true, Bool.not_false, Bool.not_eq_true', Bool.not_eq_false', Bool.not_eq_eq_eq_not, Decidable.not_not] at h_) <;> (try simp only [r7_13, r7_14, r7_15, r7_21, l7_1, q124, q123, q122, c2, c3, hb, hc, hlp, Int.toNat_natCast, Nat.mul_one, Nat.zero_add, h_, go_sem, Int.reduceTMod, Int.reduceTDiv, Int.reduceDiv, Int.reduceMod, Int.reduceAdd, Int.reduceSub, Int.reduceMul, Int.reduceNeg, Int.reducePow, Int.reduceEq, ↓reduceIte, Nat.reduceEqDiff, Nat.reduceAdd, Nat.reduceMul, Nat.reduceLeDiff, Nat.reduceSub, Nat.reduceLT, Int.reduceToNat, Int.reduceLT, Int.reduceLE, reduceCtorEq]))
              refine XK_iter (inv := fun j s => s.e 130 = RI j ∧ s.e 129 = RI lp.length ∧ s.e 128 = .one d ∧ s.e 124 = RI i ∧ s.e 123 = RI ls.length ∧ s.e 122 = u1 ∧ s.e 10 = .one (.ptr N1 0) ∧ N3 ≤ s.n ∧ ∀ id, id < N3 → s.m id = M3 id) lp.length
                (fun L _ => ⟨fun j hj s hs' next2 => ?_, fun s hs' => ?_⟩) 0 (by omega) _ ⟨?_, ?_, ?_, ?_, ?_, ?_, ?_, Nat.le_refl _, fun _ _ => rfl⟩
              · obtain ⟨e, M4, N4⟩ := s
                obtain ⟨p130, p129, p128, p124, p123, p122, p10, pn, pm⟩ := hs'
                simp only at p130 p129 p128 p124 p123 p122 p10 pn pm
                have hp2 : lp[j]? = some lp[j] := List.getElem?_eq_getElem hj
                have hr4 : RPt M4 N4 (.one d) lp := hrc.keep pn pm
                obtain ⟨id2, off2, cap2, hrd2, hid2, hrr⟩ := hr4.at cs2 hp2
                have hhq := hhp lp[j] (List.getElem_mem hj)
                have d2 : ((j : Int) < (lp.length : Int)) = True := eq_true (by omega)
                have d3 : (0 ≤ (j : Int)) = True := eq_true (by omega)
                have d7 : IntKind.i64.wrap ((j : Int) + 1) = ((j + 1 : Nat) : Int) := wr_nat (by omega)
                generalize lp[j] = p at *
                have hb4 : M4 N1 = some ⟨RB2.cs, true⟩ := by rw [pm _ (by omega), qm _ (by omega)]; exact hbx
                have vh := v_BHas RB2.x0 RB2.y0 RB2.x1 RB2.y1 p.x p.y
                rw [show (Bx.mk RB2.x0 RB2.y0 RB2.x1 RB2.y1).has ⟨p.x, p.y⟩ = true from hhq] at vh
                rw [hrd2] at p128
                have n1 := na_0 hid2
                have n2 := na_0 (show N1 < N4 by omega)
                try simp only [r7_16, r7_17, r7_18, r7_19, r7_20, l7_0, p130, p129, p128, p10, d2, d3, d7, hrr, hb4, rd_of hb4, n1, n2, vh, Int.toNat_natCast, go_sem, Int.reduceTMod, Int.reduceTDiv, Int.reduceDiv, Int.reduceMod, Int.reduceAdd, Int.reduceSub, Int.reduceMul, Int.reduceNeg, Int.reducePow, Int.reduceEq, ↓reduceIte, Nat.reduceEqDiff, Nat.reduceAdd, Nat.reduceMul, Nat.reduceLeDiff, Nat.reduceSub, Nat.reduceLT, Int.reduceToNat, Int.reduceLT, Int.reduceLE, reduceCtorEq]
                repeat' ((first | refine FK_split (fun h_ => ?_) (fun h_ => ?_) | refine GK_split (fun h_ => ?_) (fun h_ => ?_) | refine ite_both (fun h_ => ?_) (fun h_ => ?_)) <;> (try simp only [decide_eq_true_eq, decide_eq_false_iff_not, Bool.not_true, Bool.not_false, Bool.not_eq_true', Bool.not_eq_false', Bool.not_eq_eq_eq_not, Decidable.not_not] at h_) <;> (try simp only [r7_16, r7_17, r7_18, r7_19, r7_20, l7_0, p130, p129, p128, p10, d2, d3, d7, hrr, hb4, rd_of hb4, n1, n2, vh, Int.toNat_natCast, h_, go_sem, Int.reduceTMod, Int.reduceTDiv, Int.reduceDiv, Int.reduceMod, Int.reduceAdd, Int.reduceSub, Int.reduceMul, Int.reduceNeg, Int.reducePow, Int.reduceEq, ↓reduceIte, Nat.reduceEqDiff, Nat.reduceAdd, Nat.reduceMul, Nat.reduceLeDiff, Nat.reduceSub, Nat.reduceLT, Int.reduceToNat, Int.reduceLT, Int.reduceLE, reduceCtorEq]))
                refine next2 _ ⟨?_, ?_, ?_, ?_, ?_, ?_, ?_, ?_, fun id hid => ?_⟩
                · simp only [go_sem, Int.reduceTMod, Int.reduceTDiv, Int.reduceDiv, Int.reduceMod, Int.reduceAdd, Int.reduceSub, Int.reduceMul, Int.reduceNeg, Int.reducePow, Int.reduceEq, ↓reduceIte, Nat.reduceEqDiff, Nat.reduceAdd, Nat.reduceMul, Nat.reduceLeDiff, Nat.reduceSub, Nat.reduceLT, Int.reduceToNat, Int.reduceLT, Int.reduceLE, reduceCtorEq]
                · simp only [p129, go_sem, Int.reduceTMod, Int.reduceTDiv, Int.reduceDiv, Int.reduceMod, Int.reduceAdd, Int.reduceSub, Int.reduceMul, Int.reduceNeg, Int.reducePow, Int.reduceEq, ↓reduceIte, Nat.reduceEqDiff, Nat.reduceAdd, Nat.reduceMul, Nat.reduceLeDiff, Nat.reduceSub, Nat.reduceLT, Int.reduceToNat, Int.reduceLT, Int.reduceLE, reduceCtorEq]
                · simp only [p128, hrd2, go_sem, Int.reduceTMod, Int.reduceTDiv, Int.reduceDiv, Int.reduceMod, Int.reduceAdd, Int.reduceSub, Int.reduceMul, Int.reduceNeg, Int.reducePow, Int.reduceEq, ↓reduceIte, Nat.reduceEqDiff, Nat.reduceAdd, Nat.reduceMul, Nat.reduceLeDiff, Nat.reduceSub, Nat.reduceLT, Int.reduceToNat, Int.reduceLT, Int.reduceLE, reduceCtorEq]
                · simp only [p124, go_sem, Int.reduceTMod, Int.reduceTDiv, Int.reduceDiv, Int.reduceMod, Int.reduceAdd, Int.reduceSub, Int.reduceMul, Int.reduceNeg, Int.reducePow, Int.reduceEq, ↓reduceIte, Nat.reduceEqDiff, Nat.reduceAdd, Nat.reduceMul, Nat.reduceLeDiff, Nat.reduceSub, Nat.reduceLT, Int.reduceToNat, Int.reduceLT, Int.reduceLE, reduceCtorEq]
                · simp only [p123, go_sem, Int.reduceTMod, Int.reduceTDiv, Int.reduceDiv, Int.reduceMod, Int.reduceAdd, Int.reduceSub, Int.reduceMul, Int.reduceNeg, Int.reducePow, Int.reduceEq, ↓reduceIte, Nat.reduceEqDiff, Nat.reduceAdd, Nat.reduceMul, Nat.reduceLeDiff, Nat.reduceSub, Nat.reduceLT, Int.reduceToNat, Int.reduceLT, Int.reduceLE, reduceCtorEq]
                · simp only [p122, go_sem, Int.reduceTMod, Int.reduceTDiv, Int.reduceDiv, Int.reduceMod, Int.reduceAdd, Int.reduceSub, Int.reduceMul, Int.reduceNeg, Int.reducePow, Int.reduceEq, ↓reduceIte, Nat.reduceEqDiff, Nat.reduceAdd, Nat.reduceMul, Nat.reduceLeDiff, Nat.reduceSub, Nat.reduceLT, Int.reduceToNat, Int.reduceLT, Int.reduceLE, reduceCtorEq]
                · simp only [p10, go_sem, Int.reduceTMod, Int.reduceTDiv, Int.reduceDiv, Int.reduceMod, Int.reduceAdd, Int.reduceSub, Int.reduceMul, Int.reduceNeg, Int.reducePow, Int.reduceEq, ↓reduceIte, Nat.reduceEqDiff, Nat.reduceAdd, Nat.reduceMul, Nat.reduceLeDiff, Nat.reduceSub, Nat.reduceLT, Int.reduceToNat, Int.reduceLT, Int.reduceLE, reduceCtorEq]
                · simp only [go_sem, Int.reduceTMod, Int.reduceTDiv, Int.reduceDiv, Int.reduceMod, Int.reduceAdd, Int.reduceSub, Int.reduceMul, Int.reduceNeg, Int.reducePow, Int.reduceEq, ↓reduceIte, Nat.reduceEqDiff, Nat.reduceAdd, Nat.reduceMul, Nat.reduceLeDiff, Nat.reduceSub, Nat.reduceLT, Int.reduceToNat, Int.reduceLT, Int.reduceLE, reduceCtorEq]
                  omega
                · simp only [na_0 (show id < N4 by omega), na_ne (show id < N4 by omega), go_sem, Int.reduceTMod, Int.reduceTDiv, Int.reduceDiv, Int.reduceMod, Int.reduceAdd, Int.reduceSub, Int.reduceMul, Int.reduceNeg, Int.reducePow, Int.reduceEq, ↓reduceIte, Nat.reduceEqDiff, Nat.reduceAdd, Nat.reduceMul, Nat.reduceLeDiff, Nat.reduceSub, Nat.reduceLT, Int.reduceToNat, Int.reduceLT, Int.reduceLE, reduceCtorEq]
                  exact pm id hid
              · obtain ⟨e, M4, N4⟩ := s
                obtain ⟨p130, p129, p128, p124, p123, p122, p10, pn, pm⟩ := hs'
                simp only at p130 p129 p128 p124 p123 p122 p10 pn pm
                have d2 : ((lp.length : Int) < (lp.length : Int)) = False := eq_false (by omega)
                try simp only [r7_16, r7_20, r7_21, l7_0, p130, p129, d2, p124, c7, go_sem, Int.reduceTMod, Int.reduceTDiv, Int.reduceDiv, Int.reduceMod, Int.reduceAdd, Int.reduceSub, Int.reduceMul, Int.reduceNeg, Int.reducePow, Int.reduceEq, ↓reduceIte, Nat.reduceEqDiff, Nat.reduceAdd, Nat.reduceMul, Nat.reduceLeDiff, Nat.reduceSub, Nat.reduceLT, Int.reduceToNat, Int.reduceLT, Int.reduceLE, reduceCtorEq]
                repeat' ((first | refine FK_split (fun h_ => ?_) (fun h_ => ?_) | refine GK_split (fun h_ => ?_) (fun h_ => ?_) | refine ite_both (fun h_ => ?_) (fun h_ => ?_)) <;> (try simp only [decide_eq_true_eq, decide_eq_false_iff_not, Bool.not_true, Bool.not_false, Bool.not_eq_true', Bool.not_eq_false', Bool.not_eq_eq_eq_not, Decidable.not_not] at h_) <;> (try simp only [r7_16, r7_20, r7_21, l7_0, p130, p129, d2, p124, c7, h_, go_sem, Int.reduceTMod, Int.reduceTDiv, Int.reduceDiv, Int.reduceMod, Int.reduceAdd, Int.reduceSub, Int.reduceMul, Int.reduceNeg, Int.reducePow, Int.reduceEq, ↓reduceIte, Nat.reduceEqDiff, Nat.reduceAdd, Nat.reduceMul, Nat.reduceLeDiff, Nat.reduceSub, Nat.reduceLT, Int.reduceToNat, Int.reduceLT, Int.reduceLE, reduceCtorEq]))
                refine next _ ⟨?_, ?_, ?_, ?_, ?_, fun id hid => ?_⟩
                · simp only [go_sem, Int.reduceTMod, Int.reduceTDiv, Int.reduceDiv, Int.reduceMod, Int.reduceAdd, Int.reduceSub, Int.reduceMul, Int.reduceNeg, Int.reducePow, Int.reduceEq, ↓reduceIte, Nat.reduceEqDiff, Nat.reduceAdd, Nat.reduceMul, Nat.reduceLeDiff, Nat.reduceSub, Nat.reduceLT, Int.reduceToNat, Int.reduceLT, Int.reduceLE, reduceCtorEq]
                · simp only [p123, go_sem, Int.reduceTMod, Int.reduceTDiv, Int.reduceDiv, Int.reduceMod, Int.reduceAdd, Int.reduceSub, Int.reduceMul, Int.reduceNeg, Int.reducePow, Int.reduceEq, ↓reduceIte, Nat.reduceEqDiff, Nat.reduceAdd, Nat.reduceMul, Nat.reduceLeDiff, Nat.reduceSub, Nat.reduceLT, Int.reduceToNat, Int.reduceLT, Int.reduceLE, reduceCtorEq]
                · simp only [p122, go_sem, Int.reduceTMod, Int.reduceTDiv, Int.reduceDiv, Int.reduceMod, Int.reduceAdd, Int.reduceSub, Int.reduceMul, Int.reduceNeg, Int.reducePow, Int.reduceEq, ↓reduceIte, Nat.reduceEqDiff, Nat.reduceAdd, Nat.reduceMul, Nat.reduceLeDiff, Nat.reduceSub, Nat.reduceLT, Int.reduceToNat, Int.reduceLT, Int.reduceLE, reduceCtorEq]
                · simp only [p10, go_sem, Int.reduceTMod, Int.reduceTDiv, Int.reduceDiv, Int.reduceMod, Int.reduceAdd, Int.reduceSub, Int.reduceMul, Int.reduceNeg, Int.reducePow, Int.reduceEq, ↓reduceIte, Nat.reduceEqDiff, Nat.reduceAdd, Nat.reduceMul, Nat.reduceLeDiff, Nat.reduceSub, Nat.reduceLT, Int.reduceToNat, Int.reduceLT, Int.reduceLE, reduceCtorEq]
                · simp only [go_sem, Int.reduceTMod, Int.reduceTDiv, Int.reduceDiv, Int.reduceMod, Int.reduceAdd, Int.reduceSub, Int.reduceMul, Int.reduceNeg, Int.reducePow, Int.reduceEq, ↓reduceIte, Nat.reduceEqDiff, Nat.reduceAdd, Nat.reduceMul, Nat.reduceLeDiff, Nat.reduceSub, Nat.reduceLT, Int.reduceToNat, Int.reduceLT, Int.reduceLE, reduceCtorEq]
                  omega
                · simp only
                  rw [pm id (by omega)]
                  exact qm id hid
              · simp only [go_sem, Int.reduceTMod, Int.reduceTDiv, Int.reduceDiv, Int.reduceMod, Int.reduceAdd, Int.reduceSub, Int.reduceMul, Int.reduceNeg, Int.reducePow, Int.reduceEq, ↓reduceIte, Nat.reduceEqDiff, Nat.reduceAdd, Nat.reduceMul, Nat.reduceLeDiff, Nat.reduceSub, Nat.reduceLT, Int.reduceToNat, Int.reduceLT, Int.reduceLE, reduceCtorEq]
              · simp only [go_sem, Int.reduceTMod, Int.reduceTDiv, Int.reduceDiv, Int.reduceMod, Int.reduceAdd, Int.reduceSub, Int.reduceMul, Int.reduceNeg, Int.reducePow, Int.reduceEq, ↓reduceIte, Nat.reduceEqDiff, Nat.reduceAdd, Nat.reduceMul, Nat.reduceLeDiff, Nat.reduceSub, Nat.reduceLT, Int.reduceToNat, Int.reduceLT, Int.reduceLE, reduceCtorEq]
              · simp only [go_sem, Int.reduceTMod, Int.reduceTDiv, Int.reduceDiv, Int.reduceMod, Int.reduceAdd, Int.reduceSub, Int.reduceMul, Int.reduceNeg, Int.reducePow, Int.reduceEq, ↓reduceIte, Nat.reduceEqDiff, Nat.reduceAdd, Nat.reduceMul, Nat.reduceLeDiff, Nat.reduceSub, Nat.reduceLT, Int.reduceToNat, Int.reduceLT, Int.reduceLE, reduceCtorEq]
              · simp only [q124, go_sem, Int.reduceTMod, Int.reduceTDiv, Int.reduceDiv, Int.reduceMod, Int.reduceAdd, Int.reduceSub, Int.reduceMul, Int.reduceNeg, Int.reducePow, Int.reduceEq, ↓reduceIte, Nat.reduceEqDiff, Nat.reduceAdd, Nat.reduceMul, Nat.reduceLeDiff, Nat.reduceSub, Nat.reduceLT, Int.reduceToNat, Int.reduceLT, Int.reduceLE, reduceCtorEq]
              · simp only [q123, go_sem, Int.reduceTMod, Int.reduceTDiv, Int.reduceDiv, Int.reduceMod, Int.reduceAdd, Int.reduceSub, Int.reduceMul, Int.reduceNeg, Int.reducePow, Int.reduceEq, ↓reduceIte, Nat.reduceEqDiff, Nat.reduceAdd, Nat.reduceMul, Nat.reduceLeDiff, Nat.reduceSub, Nat.reduceLT, Int.reduceToNat, Int.reduceLT, Int.reduceLE, reduceCtorEq]
              · simp only [q122, hro, go_sem, Int.reduceTMod, Int.reduceTDiv, Int.reduceDiv, Int.reduceMod, Int.reduceAdd, Int.reduceSub, Int.reduceMul, Int.reduceNeg, Int.reducePow, Int.reduceEq, ↓reduceIte, Nat.reduceEqDiff, Nat.reduceAdd, Nat.reduceMul, Nat.reduceLeDiff, Nat.reduceSub, Nat.reduceLT, Int.reduceToNat, Int.reduceLT, Int.reduceLE, reduceCtorEq]
              · simp only [q10, go_sem, Int.reduceTMod, Int.reduceTDiv, Int.reduceDiv, Int.reduceMod, Int.reduceAdd, Int.reduceSub, Int.reduceMul, Int.reduceNeg, Int.reducePow, Int.reduceEq, ↓reduceIte, Nat.reduceEqDiff, Nat.reduceAdd, Nat.reduceMul, Nat.reduceLeDiff, Nat.reduceSub, Nat.reduceLT, Int.reduceToNat, Int.reduceLT, Int.reduceLE, reduceCtorEq]
            · obtain ⟨e, M3, N3⟩ := s
              obtain ⟨q124, q123, q122, q10, qn, qm⟩ := hs'
              simp only at q124 q123 q122 q10 qn qm
              have c2 : ((ls.length : Int) < (ls.length : Int)) = False := eq_false (by omega)
              try simp only [r7_13, r7_22, l7_1, q124, q123, c2, v_awake07, go_sem, Int.reduceTMod, Int.reduceTDiv, Int.reduceDiv, Int.reduceMod, Int.reduceAdd, Int.reduceSub, Int.reduceMul, Int.reduceNeg, Int.reducePow, Int.reduceEq, ↓reduceIte, Nat.reduceEqDiff, Nat.reduceAdd, Nat.reduceMul, Nat.reduceLeDiff, Nat.reduceSub, Nat.reduceLT, Int.reduceToNat, Int.reduceLT, Int.reduceLE, reduceCtorEq]
              repeat' ((first | refine FK_split (fun h_ => ?_) (fun h_ => ?_) | refine GK_split (fun h_ => ?_) (fun h_ => ?_) | refine ite_both (fun h_ => ?_) (fun h_ => ?_)) <;> (try simp only [decide_eq_true_eq, decide_eq_false_iff_not, Bool.not_true, Bool.not_false, Bool.not_eq_true', Bool.not_eq_false', Bool.not_eq_eq_eq_not, Decidable.not_not] at h_) <;> (try simp only [r7_13, r7_22, l7_1, q124, q123, c2, v_awake07, h_, go_sem, Int.reduceTMod, Int.reduceTDiv, Int.reduceDiv, Int.reduceMod, Int.reduceAdd, Int.reduceSub, Int.reduceMul, Int.reduceNeg, Int.reducePow, Int.reduceEq, ↓reduceIte, Nat.reduceEqDiff, Nat.reduceAdd, Nat.reduceMul, Nat.reduceLeDiff, Nat.reduceSub, Nat.reduceLT, Int.reduceToNat, Int.reduceLT, Int.reduceLE, reduceCtorEq]))
            · simp only [go_sem, Int.reduceTMod, Int.reduceTDiv, Int.reduceDiv, Int.reduceMod, Int.reduceAdd, Int.reduceSub, Int.reduceMul, Int.reduceNeg, Int.reducePow, Int.reduceEq, ↓reduceIte, Nat.reduceEqDiff, Nat.reduceAdd, Nat.reduceMul, Nat.reduceLeDiff, Nat.reduceSub, Nat.reduceLT, Int.reduceToNat, Int.reduceLT, Int.reduceLE, reduceCtorEq]
            · simp only [go_sem, Int.reduceTMod, Int.reduceTDiv, Int.reduceDiv, Int.reduceMod, Int.reduceAdd, Int.reduceSub, Int.reduceMul, Int.reduceNeg, Int.reducePow, Int.reduceEq, ↓reduceIte, Nat.reduceEqDiff, Nat.reduceAdd, Nat.reduceMul, Nat.reduceLeDiff, Nat.reduceSub, Nat.reduceLT, Int.reduceToNat, Int.reduceLT, Int.reduceLE, reduceCtorEq]
            · simp only [go_sem, Int.reduceTMod, Int.reduceTDiv, Int.reduceDiv, Int.reduceMod, Int.reduceAdd, Int.reduceSub, Int.reduceMul, Int.reduceNeg, Int.reducePow, Int.reduceEq, ↓reduceIte, Nat.reduceEqDiff, Nat.reduceAdd, Nat.reduceMul, Nat.reduceLeDiff, Nat.reduceSub, Nat.reduceLT, Int.reduceToNat, Int.reduceLT, Int.reduceLE, reduceCtorEq]
            · simp only [go_sem, Int.reduceTMod, Int.reduceTDiv, Int.reduceDiv, Int.reduceMod, Int.reduceAdd, Int.reduceSub, Int.reduceMul, Int.reduceNeg, Int.reducePow, Int.reduceEq, ↓reduceIte, Nat.reduceEqDiff, Nat.reduceAdd, Nat.reduceMul, Nat.reduceLeDiff, Nat.reduceSub, Nat.reduceLT, Int.reduceToNat, Int.reduceLT, Int.reduceLE, reduceCtorEq]
          · skip
            try simp only [r7_9, r7_10, hk, v_awake07, go_sem, Int.reduceTMod, Int.reduceTDiv, Int.reduceDiv, Int.reduceMod, Int.reduceAdd, Int.reduceSub, Int.reduceMul, Int.reduceNeg, Int.reducePow, Int.reduceEq, ↓reduceIte, Nat.reduceEqDiff, Nat.reduceAdd, Nat.reduceMul, Nat.reduceLeDiff, Nat.reduceSub, Nat.reduceLT, Int.reduceToNat, Int.reduceLT, Int.reduceLE, reduceCtorEq]
            repeat' ((first | refine FK_split (fun h_ => ?_) (fun h_ => ?_) | refine GK_split (fun h_ => ?_) (fun h_ => ?_) | refine ite_both (fun h_ => ?_) (fun h_ => ?_)) <;> (try simp only [decide_eq_true_eq, decide_eq_false_iff_not, Bool.not_true, Bool.not_false, Bool.not_eq_true', Bool.not_eq_false', Bool.not_eq_eq_eq_not, Decidable.not_not] at h_) <;> (try simp only [r7_9, r7_10, hk, v_awake07, h_, go_sem, Int.reduceTMod, Int.reduceTDiv, Int.reduceDiv, Int.reduceMod, Int.reduceAdd, Int.reduceSub, Int.reduceMul, Int.reduceNeg, Int.reducePow, Int.reduceEq, ↓reduceIte, Nat.reduceEqDiff, Nat.reduceAdd, Nat.reduceMul, Nat.reduceLeDiff, Nat.reduceSub, Nat.reduceLT, Int.reduceToNat, Int.reduceLT, Int.reduceLE, reduceCtorEq]))
        by_cases a1 : B.x1 ≤ B.x0
        · have ea : (decide (B.x1 ≤ B.x0) || decide (B.y1 ≤ B.y0)) = true := by rw [decide_eq_true a1]; rfl
          rw [ea] at vr
          try simp only [c7, F7, r7_0, r7_1, r7_2, r7_3, r7_4, r7_5, r7_6, r7_7, ss, sc, Bool.or_true, hlen, g, g1, g2, a1, vr, w, go_sem, Int.reduceTMod, Int.reduceTDiv, Int.reduceDiv, Int.reduceMod, Int.reduceAdd, Int.reduceSub, Int.reduceMul, Int.reduceNeg, Int.reducePow, Int.reduceEq, ↓reduceIte, Nat.reduceEqDiff, Nat.reduceAdd, Nat.reduceMul, Nat.reduceLeDiff, Nat.reduceSub, Nat.reduceLT, Int.reduceToNat, Int.reduceLT, Int.reduceLE, reduceCtorEq]
          repeat' ((first | refine FK_split (fun h_ => ?_) (fun h_ => ?_) | refine GK_split (fun h_ => ?_) (fun h_ => ?_) | refine ite_both (fun h_ => ?_) (fun h_ => ?_)) <;> (try simp only [decide_eq_true_eq, decide_eq_false_iff_not, Bool.not_true, Bool.not_false, Bool.not_eq_true', Bool.not_eq_false', Bool.not_eq_eq_eq_not, Decidable.not_not] at h_) <;> (try simp only [c7, F7, r7_0, r7_1, r7_2, r7_3, r7_4, r7_5, r7_6, r7_7, ss, sc, Bool.or_true, hlen, g, g1, g2, a1, vr, w, h_, go_sem, Int.reduceTMod, Int.reduceTDiv, Int.reduceDiv, Int.reduceMod, Int.reduceAdd, Int.reduceSub, Int.reduceMul, Int.reduceNeg, Int.reducePow, Int.reduceEq, ↓reduceIte, Nat.reduceEqDiff, Nat.reduceAdd, Nat.reduceMul, Nat.reduceLeDiff, Nat.reduceSub, Nat.reduceLT, Int.reduceToNat, Int.reduceLT, Int.reduceLE, reduceCtorEq]))
          all_goals (refine tail _ ?_ ?_ ?_ <;> simp only [go_sem, Int.reduceTMod, Int.reduceTDiv, Int.reduceDiv, Int.reduceMod, Int.reduceAdd, Int.reduceSub, Int.reduceMul, Int.reduceNeg, Int.reducePow, Int.reduceEq, ↓reduceIte, Nat.reduceEqDiff, Nat.reduceAdd, Nat.reduceMul, Nat.reduceLeDiff, Nat.reduceSub, Nat.reduceLT, Int.reduceToNat, Int.reduceLT, Int.reduceLE, reduceCtorEq])
        · by_cases a2 : B.y1 ≤ B.y0
          · have ea : (decide (B.x1 ≤ B.x0) || decide (B.y1 ≤ B.y0)) = true := by rw [decide_eq_true a2, Bool.or_true]
            rw [ea] at vr
            try simp only [c7, F7, r7_0, r7_1, r7_2, r7_3, r7_4, r7_5, r7_6, r7_7, ss, sc, Bool.or_true, hlen, g, g1, g2, a1, a2, vr, w, go_sem, Int.reduceTMod, Int.reduceTDiv, Int.reduceDiv, Int.reduceMod, Int.reduceAdd, Int.reduceSub, Int.reduceMul, Int.reduceNeg, Int.reducePow, Int.reduceEq, ↓reduceIte, Nat.reduceEqDiff, Nat.reduceAdd, Nat.reduceMul, Nat.reduceLeDiff, Nat.reduceSub, Nat.reduceLT, Int.reduceToNat, Int.reduceLT, Int.reduceLE, reduceCtorEq]
            repeat' ((first | refine FK_split (fun h_ => ?_) (fun h_ => ?_) | refine GK_split (fun h_ => ?_) (fun h_ => ?_) | refine ite_both (fun h_ => ?_) (fun h_ => ?_)) <;> (try simp only [decide_eq_true_eq, decide_eq_false_iff_not, Bool.not_true, Bool.not_false, Bool.not_eq_true', Bool.not_eq_false', Bool.not_eq_eq_eq_not, Decidable.not_not] at h_) <;> (try simp only [c7, F7, r7_0, r7_1, r7_2, r7_3, r7_4, r7_5, r7_6, r7_7, ss, sc, Bool.or_true, hlen, g, g1, g2, a1, a2, vr, w, h_, go_sem, Int.reduceTMod, Int.reduceTDiv, Int.reduceDiv, Int.reduceMod, Int.reduceAdd, Int.reduceSub, Int.reduceMul, Int.reduceNeg, Int.reducePow, Int.reduceEq, ↓reduceIte, Nat.reduceEqDiff, Nat.reduceAdd, Nat.reduceMul, Nat.reduceLeDiff, Nat.reduceSub, Nat.reduceLT, Int.reduceToNat, Int.reduceLT, Int.reduceLE, reduceCtorEq]))
            all_goals (refine tail _ ?_ ?_ ?_ <;> simp only [go_sem, Int.reduceTMod, Int.reduceTDiv, Int.reduceDiv, Int.reduceMod, Int.reduceAdd, Int.reduceSub, Int.reduceMul, Int.reduceNeg, Int.reducePow, Int.reduceEq, ↓reduceIte, Nat.reduceEqDiff, Nat.reduceAdd, Nat.reduceMul, Nat.reduceLeDiff, Nat.reduceSub, Nat.reduceLT, Int.reduceToNat, Int.reduceLT, Int.reduceLE, reduceCtorEq])
          · have ea : (decide (B.x1 ≤ B.x0) || decide (B.y1 ≤ B.y0)) = false := by rw [decide_eq_false a1, decide_eq_false a2]; rfl
            rw [ea] at vr
            try simp only [c7, F7, r7_0, r7_1, r7_2, r7_3, r7_4, r7_5, r7_6, r7_7, ss, sc, Bool.or_true, hlen, g, g1, g2, a1, a2, vr, w, go_sem, Int.reduceTMod, Int.reduceTDiv, Int.reduceDiv, Int.reduceMod, Int.reduceAdd, Int.reduceSub, Int.reduceMul, Int.reduceNeg, Int.reducePow, Int.reduceEq, ↓reduceIte, Nat.reduceEqDiff, Nat.reduceAdd, Nat.reduceMul, Nat.reduceLeDiff, Nat.reduceSub, Nat.reduceLT, Int.reduceToNat, Int.reduceLT, Int.reduceLE, reduceCtorEq]
            repeat' ((first | refine FK_split (fun h_ => ?_) (fun h_ => ?_) | refine GK_split (fun h_ => ?_) (fun h_ => ?_) | refine ite_both (fun h_ => ?_) (fun h_ => ?_)) <;> (try simp only [decide_eq_true_eq, decide_eq_false_iff_not, Bool.not_true, Bool.not_false, Bool.not_eq_true', Bool.not_eq_false', Bool.not_eq_eq_eq_not, Decidable.not_not] at h_) <;> (try simp only [c7, F7, r7_0, r7_1, r7_2, r7_3, r7_4, r7_5, r7_6, r7_7, ss, sc, Bool.or_true, hlen, g, g1, g2, a1, a2, vr, w, h_, go_sem, Int.reduceTMod, Int.reduceTDiv, Int.reduceDiv, Int.reduceMod, Int.reduceAdd, Int.reduceSub, Int.reduceMul, Int.reduceNeg, Int.reducePow, Int.reduceEq, ↓reduceIte, Nat.reduceEqDiff, Nat.reduceAdd, Nat.reduceMul, Nat.reduceLeDiff, Nat.reduceSub, Nat.reduceLT, Int.reduceToNat, Int.reduceLT, Int.reduceLE, reduceCtorEq]))
            all_goals (refine tail _ ?_ ?_ ?_ <;> simp only [go_sem, Int.reduceTMod, Int.reduceTDiv, Int.reduceDiv, Int.reduceMod, Int.reduceAdd, Int.reduceSub, Int.reduceMul, Int.reduceNeg, Int.reducePow, Int.reduceEq, ↓reduceIte, Nat.reduceEqDiff, Nat.reduceAdd, Nat.reduceMul, Nat.reduceLeDiff, Nat.reduceSub, Nat.reduceLT, Int.reduceToNat, Int.reduceLT, Int.reduceLE, reduceCtorEq])

/- Arguments that are structs with slices in them, opened for the evaluator. Conditions: those that each theorem names. -/
open Go.RowKit Go.ChangeShapes Go.WideShapes Go.Deep
set_option linter.unusedVariables false

/-- What a cell holds that is a slice of flat elements. -/
def SlOk (w : World) (ks : List CK) (v : Value) : Prop :=
  v = .slice none 0 0 ∨ ∃ b o len cap vs, v = .slice (some ⟨b, o, none⟩) len cap ∧ b < w.heap.size ∧ len ≤ cap ∧ cap ≤ maxLen ∧ RowsOk ks cap vs ∧ ∀ (i : Nat) (x : Value), vs[i]? = some x → w.cell? ⟨b, o + i, none⟩ = some x

/-- A struct all of whose fields take one cell. -/
theorem arg_mix {P : Program} {T : TypeId} {fs : Array Field} {ts : List TypeId} (ht : P.underlying T = some (.struct fs)) (hts : P.cellTypes P.depth T = some ts) {H : Type} {enc : TypeId × Value → H} {w : World} {base base' : Nat} {held : Bool} {v : Value} {d : DataW H} {ps : List MemPlace}
    (hv : Value.okWide P w .any base' T v) (h : DataW.Trod enc P w base (fun _ => true) held T v d ps) :
    ∃ cs : List Value, v = .agg cs.toArray ∧ cs.length = P.cellsOf T ∧ ∀ (j : Nat) (f : Field) (c : Value), fs[j]? = some f → P.cellsOf f.type = 1 → (∀ u, ts[f.offset % ts.length]? = some u → u = f.type) → cs[f.offset]? = some c →
      Cell.okWide P w .any base' f.type c ∧ ∃ x fuel, DataW.trod enc P w base (fun _ => true) held fuel f.type [c] = some x := by
  simp only [Value.okWide, ht] at hv
  obtain ⟨cs, rfl, hsz, ts', h1, h2, h3⟩ := hv
  obtain rfl := Option.some.inj (hts.symm.trans h1)
  obtain ⟨fuel, hf⟩ := h
  have hf' : DataW.trod enc P w base (fun _ => true) held fuel T cs.toList = some (d, ps) := hf
  obtain ⟨xs, n, _, _, hl, hxs, hg⟩ := DataW.trod_struct ht hf'
  refine ⟨cs.toList, by simp, by simpa using hsz, fun j f c hj hc1 hu hc => ?_⟩
  obtain ⟨u, hu1, hu2⟩ := h3 f.offset c (by simpa using hc)
  have e := hu u hu1
  subst e
  refine ⟨hu2, ?_⟩
  have h4 := hg j f hj
  rw [hc1] at h4
  have h5 : (cs.toList.drop f.offset).take 1 = [c] := by
    have hlt := (List.getElem?_eq_some_iff.1 hc).1
    rw [List.drop_eq_getElem_cons hlt]
    have := (List.getElem?_eq_some_iff.1 hc).2
    simp [this]
  rw [h5] at h4
  have hjn : j < xs.length := by
    have := (Array.getElem?_eq_some_iff.1 hj).1
    omega
  rw [List.getElem?_eq_getElem hjn] at h4
  exact ⟨_, n, h4⟩

theorem mix_slice {P : Program} {T e : TypeId} {ks : List CK} {k : Nat} (ht : P.underlying T = some (.slice e)) (hk : kindsK P k e = some ks) (hc : P.cellsOf e = ks.length) (h0 : ks.length ≠ 0) {H : Type} {enc : TypeId × Value → H} {w : World} {base base' : Nat} {held : Bool} {c : Value}
    (h : Cell.okWide P w .any base' T c ∧ ∃ x fuel, DataW.trod enc P w base (fun _ => true) held fuel T [c] = some x) : SlOk w ks c := by
  obtain ⟨hv, ⟨d, ps⟩, fuel, hf⟩ := h
  have hv2 : Value.okWide P w .any base' T c := by simp only [Value.okWide, ht]; exact hv
  obtain ⟨a, len, cap, rfl⟩ := okWide_slice ht hv2
  exact arg_slice ht hk hc h0 hv2 ⟨fuel, hf⟩
theorem mix_int {P : Program} {T : TypeId} {k : IntKind} (ht : P.underlying T = some (.int k)) {H : Type} {enc : TypeId × Value → H} {w : World} {base base' : Nat} {held : Bool} {c : Value}
    (h : Cell.okWide P w .any base' T c ∧ ∃ x fuel, DataW.trod enc P w base (fun _ => true) held fuel T [c] = some x) : ∃ n, c = .int k n ∧ k.min ≤ n ∧ n ≤ k.max := by
  obtain ⟨hv, x, fuel, hf⟩ := h
  obtain ⟨n, e, _, hw⟩ := DataW.trod_int ht hf
  obtain rfl := (List.cons.inj e).1
  exact ⟨n, rfl, has_of_wf hw⟩
theorem mix_bool {P : Program} {T : TypeId} (ht : P.underlying T = some .bool) {H : Type} {enc : TypeId × Value → H} {w : World} {base base' : Nat} {held : Bool} {c : Value}
    (h : Cell.okWide P w .any base' T c ∧ ∃ x fuel, DataW.trod enc P w base (fun _ => true) held fuel T [c] = some x) : ∃ b, c = .bool b := by
  obtain ⟨hv, x, fuel, hf⟩ := h
  obtain ⟨b, e, _⟩ := DataW.trod_bool ht hf
  obtain rfl := (List.cons.inj e).1
  exact ⟨b, rfl⟩

/-- A slice cell, laid into the evaluator's memory under the number n. -/
theorem mix_lay {ρ : Loc} {n : Nat} {w : World} {m : Mem} (hm : MRel ρ n w m) (hh : Held m) {ks : List CK} {v : Value} (h : SlOk w ks v) :
    ∃ (ρ' : Loc) (n' : Nat) (m' : Mem) (c : Cell), MRel ρ' n' w m' ∧ Held m' ∧ Le ρ n w ρ' n' w ∧ CRel ρ' n' w c v ∧ (∀ id, id < n → m' id = m id) ∧ n' = n + 1 ∧
      ((c = .sc (.slice none 0 0) ∧ v = .slice none 0 0) ∨ ∃ len cap vs, c = .sl n 0 len none ks.length ∧ len ≤ cap ∧ cap ≤ maxLen ∧ RowsOk ks cap vs ∧ m' n = some ⟨vs.map .sc, false⟩) := by
  rcases h with rfl | ⟨b, o, len, cap, vs, rfl, hb, hl, hm2, hr, hc⟩
  · have hmm : MRel ρ (n + 1) w m := by
      refine ⟨fun id bl h => by have := hm.lt id bl h; omega, hm.blk, fun id bl h i c hi => ?_, hm.soft, hm.apart⟩
      obtain ⟨x, h1, h2⟩ := hm.cells id bl h i c hi
      exact ⟨x, h1, CRel.mono ⟨by omega, fun _ _ => rfl, fun _ h => h⟩ _ _ h2⟩
    exact ⟨ρ, n + 1, m, .sc (.slice none 0 0), hmm, hh, ⟨by omega, fun _ _ => rfl, fun _ h => h⟩, by simp [CRel, Value.oneCell'], fun _ _ => rfl, rfl, Or.inl ⟨rfl, rfl⟩⟩
  · have hlen : vs.length = cap * ks.length := by
      have := hr.len
      simpa using this
    have hs := addSl (ρ := ρ) (n := n) (w := w) (len := len) (sz := ks.length) hl hlen hc
    exact ⟨atL ρ n b o, n + 1, _, .sl n 0 len none ks.length, addRow hm hh hb hr hc, held_upd hh n _, atL_le, hs, fun id hid => upd_ne _ _ (by omega), rfl, Or.inr ⟨len, cap, vs, rfl, hl, hm2, hr, upd_same _ _ _⟩⟩

/- Subpaths as_ arguments; the rows of the laws over pens. Conditions: those that each theorem names. -/
open Go Go.Proofs
open Go.RowKit Go.ChangeShapes Go.WideShapes Go.Deep
set_option linter.unusedVariables false

theorem pts_of {cap : Nat} {vs : List Value} (h : RowsOk [.int .i64, .int .i64] cap vs) : ∃ l : List Pt, l.length = cap ∧ vs.map .sc = l.flatMap Pt.cs := by
  unfold RowsOk at h
  induction cap generalizing vs with
  | zero => simp only [List.replicate_zero, List.flatten_nil, CksOk] at h; subst h; exact ⟨[], rfl, rfl⟩
  | succ k ih =>
    rw [List.replicate_succ, List.flatten_cons] at h
    simp only [List.cons_append, List.nil_append, CksOk] at h
    obtain ⟨x, r, rfl, h1, y, r', rfl, h2, h3⟩ := h
    obtain ⟨l, e1, e2⟩ := ih h3
    exact ⟨⟨x, y⟩ :: l, by simp [e1], by simp [e2, Pt.cs]⟩
/-- A slice of points, laid: it is read. -/
theorem pts_rl {m : Mem} {n : Nat} {c : Cell} {v : Value} (h : (c = .sc (.slice none 0 0) ∧ v = .slice none 0 0) ∨ ∃ len cap vs, c = .sl n 0 len none [CK.int .i64, CK.int .i64].length ∧ len ≤ cap ∧ cap ≤ maxLen ∧ RowsOk [.int .i64, .int .i64] cap vs ∧ m n = some ⟨vs.map .sc, false⟩) :
    ∃ l : List Pt, RPt m (n + 1) (.one c) l := by
  rcases h with ⟨rfl, _⟩ | ⟨len, cap, vs, rfl, h1, _, h2, h3⟩
  · exact ⟨[], Or.inl ⟨rfl, rfl⟩⟩
  · obtain ⟨l, e1, e2⟩ := pts_of h2
    have hlen : (l.take len).length = len := by rw [List.length_take]; omega
    refine ⟨l.take len, Or.inr ⟨n, 0, none, by rw [hlen]; rfl, by omega, ?_⟩⟩
    rw [rd_of h3, hlen, e2]
    have e4 : (l.flatMap Pt.cs).length = cap * 2 := by rw [flatMap_len Pt.cs 2 cs2, e1]
    unfold rdB
    rw [if_pos (by show 0 + len * 2 ≤ (l.flatMap Pt.cs).length; rw [e4]; omega), List.drop_zero]
    congr 1
    have : ∀ (l : List Pt) (k : Nat), (l.flatMap Pt.cs).take (k * 2) = (l.take k).flatMap Pt.cs := by
      intro l
      induction l with
      | nil => intro k; simp
      | cons x l ih =>
        intro k
        cases k with
        | zero => simp
        | succ k =>
          rw [show (k + 1) * 2 = k * 2 + 1 + 1 by omega]
          simp [ih k]
    exact this l len
set_option maxRecDepth 100000 in
theorem open39 {H : Type} {enc : TypeId × Value → H} {w : World} {base base' : Nat} {held : Bool} {v : Value} {d : DataW H} {ps : List MemPlace} (hv : Value.okWide Tryd.prog w .any base' 39 v) (h : DataW.Trod enc Tryd.prog w base (fun _ => true) held 39 v d ps) :
    ∃ c b, v = .agg #[c, .bool b] ∧ SlOk w [.int .i64, .int .i64] c := by
  obtain ⟨cs, rfl, hl, hf⟩ := arg_mix (ts := [24, 4]) Tryd.underlying39 (by kernel_rfl) hv h
  rw [show Tryd.prog.cellsOf 39 = 2 by kernel_rfl] at hl
  match cs, hl with
  | [c, p], _ =>
    have h0 := hf 0 _ c rfl (by kernel_rfl) (fun u hu => (Option.some.inj hu).symm) rfl
    have h1 := hf 1 _ p rfl (by kernel_rfl) (fun u hu => (Option.some.inj hu).symm) rfl
    obtain ⟨b, rfl⟩ := mix_bool Tryd.underlying4 h1
    exact ⟨c, b, rfl, mix_slice (k := 8) Tryd.underlying24 (by kernel_rfl) (by kernel_rfl) (by decide) h0⟩
/-- A law over a subpath, a half width and a cap, over the laid table. -/
theorem row_pen {f : Nat} (hlaw : ∀ (c0 : Cell) (l : List Pt) (c : Bool) (h cap : Int) (m : Mem) (n : Nat), RPt m n (.one c0) l → 0 < n → m 0 = some ⟨cosT, false⟩ → Fn TA f [.agg [c0, .sc (.bool c)], RI h, RI cap] m n (fun r _ _ => r = RB true))
    (hmix : Tryd.prog.follows .mixedOrders = true) (W : World) (ht : 0 < W.heap.size ∧ ∀ j v, cosV[j]? = some v → W.cell? ⟨0, j, none⟩ = some (.int .i64 v)) (v : Value) (hv : ∃ c b, v = .agg #[c, .bool b] ∧ SlOk W [.int .i64, .int .i64] c)
    (k : Int) (hk : IntKind.i64.min ≤ k ∧ k ≤ IntKind.i64.max) (k2 : Int) (hk2 : IntKind.i64.min ≤ k2 ∧ k2 ≤ IntKind.i64.max) :
    Calls Tryd.prog f #[v, .int .i64 k, .int .i64 k2] W (fun e w' => e = .returned (.bool true) ∧ Go.RowKit.Below W.heap.size W w') := by
  obtain ⟨c, b, rfl, hs⟩ := hv
  obtain ⟨ρ, n, m, c0, hm, hh, hle, hc, hold, rfl, hk0⟩ := mix_lay (tab_mem (vals := cosV) ht.1 ht.2) tab_held hs
  obtain ⟨l, hr⟩ := pts_rl hk0
  have hg : Glob 1 ρ (1 + 1) := tab_glob.mono hle
  exact law_calls (ng := 1) (ρ := ρ) (n := 1 + 1) hmix TA_ok (hlaw c0 l b k k2 m (1 + 1) hr (by omega) (by rw [hold 0 (by omega)]; exact upd_same _ _ _)) hm hg ⟨_, _, rfl, ⟨_, rfl, _, _, rfl, hc, _, _, rfl, ⟨rfl, rfl⟩, rfl⟩, _, _, rfl, ⟨rfl, rfl⟩, _, _, rfl, ⟨rfl, rfl⟩, rfl⟩ hh

/- The row StrokeReach. Conditions: those that each theorem names. -/
open Go Go.Proofs
open Go.RowKit Go.ChangeShapes Go.WideShapes Go.Deep
set_option linter.unusedVariables false

/-- A struct, by its cells and by its fields. -/
theorem arg_fields {P : Program} {T : TypeId} {fs : Array Field} {ts : List TypeId} (ht : P.underlying T = some (.struct fs)) (hts : P.cellTypes P.depth T = some ts) {H : Type} {enc : TypeId × Value → H} {w : World} {base base' : Nat} {held : Bool} {v : Value} {d : DataW H} {ps : List MemPlace}
    (hv : Value.okWide P w .any base' T v) (h : DataW.Trod enc P w base (fun _ => true) held T v d ps) :
    ∃ cs : List Value, v = .agg cs.toArray ∧ cs.length = P.cellsOf T ∧ (∀ (i : Nat) (c : Value), cs[i]? = some c → ∃ u, ts[i % ts.length]? = some u ∧ Cell.okWide P w .any base' u c) ∧
      ∀ (j : Nat) (f : Field) (z : Nat) (l : List Value), fs[j]? = some f → P.cellsOf f.type = z → (cs.drop f.offset).take z = l → ∃ x n, DataW.trod enc P w base (fun _ => true) held n f.type l = some x := by
  simp only [Value.okWide, ht] at hv
  obtain ⟨cs, rfl, hsz, ts', h1, h2, h3⟩ := hv
  obtain rfl := Option.some.inj (hts.symm.trans h1)
  obtain ⟨fuel, hf⟩ := h
  have hf' : DataW.trod enc P w base (fun _ => true) held fuel T cs.toList = some (d, ps) := hf
  obtain ⟨xs, n, _, _, hl, hxs, hg⟩ := DataW.trod_struct ht hf'
  refine ⟨cs.toList, by simp, by simpa using hsz, fun i c hc => h3 i c (by simpa using hc), fun j f z l hj hz hl2 => ?_⟩
  subst hz
  subst hl2
  have h4 := hg j f hj
  have hjn : j < xs.length := by
    have := (Array.getElem?_eq_some_iff.1 hj).1
    omega
  rw [List.getElem?_eq_getElem hjn] at h4
  exact ⟨_, n, h4⟩
/-- A struct in a struct. -/
theorem sub_fields {P : Program} {T : TypeId} {fs : Array Field} (ht : P.underlying T = some (.struct fs)) {H : Type} {enc : TypeId × Value → H} {w : World} {base : Nat} {held : Bool} {cs : List Value} {n : Nat} {x : DataW H × List MemPlace}
    (h : DataW.trod enc P w base (fun _ => true) held n T cs = some x) : ∀ (j : Nat) (f : Field) (z : Nat) (l : List Value), fs[j]? = some f → P.cellsOf f.type = z → (cs.drop f.offset).take z = l → ∃ x n, DataW.trod enc P w base (fun _ => true) held n f.type l = some x := by
  obtain ⟨d, ps⟩ := x
  obtain ⟨xs, n, _, _, hl, hxs, hg⟩ := DataW.trod_struct ht h
  intro j f z l hj hz hl2
  subst hz
  subst hl2
  have h4 := hg j f hj
  have hjn : j < xs.length := by
    have := (Array.getElem?_eq_some_iff.1 hj).1
    omega
  rw [List.getElem?_eq_getElem hjn] at h4
  exact ⟨_, n, h4⟩
set_option maxRecDepth 100000 in
theorem open55 {H : Type} {enc : TypeId × Value → H} {w : World} {base base' : Nat} {held : Bool} {v : Value} {d : DataW H} {ps : List MemPlace} (hv : Value.okWide Tryd.prog w .any base' 55 v) (h : DataW.Trod enc Tryd.prog w base (fun _ => true) held 55 v d ps) :
    ∃ (c : Value) (b : Bool) (h cap x0 y0 x1 y1 : Int), v = .agg #[c, .bool b, .int .i64 h, .int .i64 cap, .int .i64 x0, .int .i64 y0, .int .i64 x1, .int .i64 y1] ∧ SlOk w [.int .i64, .int .i64] c := by
  obtain ⟨cs, rfl, hl, hc, hf⟩ := arg_fields (ts := [24, 4, 3, 3, 3, 3, 3, 3]) Tryd.underlying55 (by kernel_rfl) hv h
  rw [show Tryd.prog.cellsOf 55 = 8 by kernel_rfl] at hl
  match cs, hl with
  | [a0, a1, a2, a3, a4, a5, a6, a7], _ =>
    obtain ⟨f0, n0, g0⟩ := hf 0 _ 2 [a0, a1] rfl (by kernel_rfl) rfl
    obtain ⟨f1, n1, g1⟩ := hf 1 _ 1 [a2] rfl (by kernel_rfl) rfl
    obtain ⟨f2, n2, g2⟩ := hf 2 _ 1 [a3] rfl (by kernel_rfl) rfl
    obtain ⟨f3, n3, g3⟩ := hf 3 _ 4 [a4, a5, a6, a7] rfl (by kernel_rfl) rfl
    have s0 := sub_fields Tryd.underlying39 g0
    have s3 := sub_fields Tryd.underlying53 g3
    obtain ⟨u0, k0, t0⟩ := s0 0 _ 1 [a0] rfl (by kernel_rfl) rfl
    obtain ⟨u1, k1, t1⟩ := s0 1 _ 1 [a1] rfl (by kernel_rfl) rfl
    obtain ⟨u4, k4, t4⟩ := s3 0 _ 1 [a4] rfl (by kernel_rfl) rfl
    obtain ⟨u5, k5, t5⟩ := s3 1 _ 1 [a5] rfl (by kernel_rfl) rfl
    obtain ⟨u6, k6, t6⟩ := s3 2 _ 1 [a6] rfl (by kernel_rfl) rfl
    obtain ⟨u7, k7, t7⟩ := s3 3 _ 1 [a7] rfl (by kernel_rfl) rfl
    obtain ⟨v0, hv0, hw0⟩ := hc 0 a0 rfl
    obtain rfl : (24 : Nat) = v0 := Option.some.inj hv0
    have sl : SlOk w [.int .i64, .int .i64] a0 := mix_slice (k := 8) Tryd.underlying24 (by kernel_rfl) (by kernel_rfl) (by decide) ⟨hw0, u0, k0, t0⟩
    have int : ∀ (a : Value) (x : DataW H × List MemPlace) (k : Nat), DataW.trod enc Tryd.prog w base (fun _ => true) held k 3 [a] = some x → ∃ z, a = .int .i64 z := fun a x k hk => by
      obtain ⟨z, e, _, _⟩ := DataW.trod_int Tryd.underlying3 hk
      exact ⟨z, (List.cons.inj e).1⟩
    obtain ⟨b, rfl⟩ : ∃ b, a1 = .bool b := by
      obtain ⟨z, e, _⟩ := DataW.trod_bool Tryd.underlying4 t1
      exact ⟨z, (List.cons.inj e).1⟩
    obtain ⟨z2, rfl⟩ := int _ _ _ g1
    obtain ⟨z3, rfl⟩ := int _ _ _ g2
    obtain ⟨z4, rfl⟩ := int _ _ _ t4
    obtain ⟨z5, rfl⟩ := int _ _ _ t5
    obtain ⟨z6, rfl⟩ := int _ _ _ t6
    obtain ⟨z7, rfl⟩ := int _ _ _ t7
    exact ⟨a0, b, z2, z3, z4, z5, z6, z7, rfl, sl⟩
theorem rowL7 (hmix : Tryd.prog.follows .mixedOrders = true) (W : World) (ht : 0 < W.heap.size ∧ ∀ j v, cosV[j]? = some v → W.cell? ⟨0, j, none⟩ = some (.int .i64 v)) (v : Value)
    (hv : ∃ (c : Value) (b : Bool) (h cap x0 y0 x1 y1 : Int), v = .agg #[c, .bool b, .int .i64 h, .int .i64 cap, .int .i64 x0, .int .i64 y0, .int .i64 x1, .int .i64 y1] ∧ SlOk W [.int .i64, .int .i64] c) :
    Calls Tryd.prog 7 #[v] W (fun e w' => e = .returned (.bool true) ∧ Go.RowKit.Below W.heap.size W w') := by
  obtain ⟨c, b, h, cap, x0, y0, x1, y1, rfl, hs⟩ := hv
  obtain ⟨ρ, n, m, c0, hm, hh, hle, hc, hold, rfl, hk0⟩ := mix_lay (tab_mem (vals := cosV) ht.1 ht.2) tab_held hs
  obtain ⟨l, hr⟩ := pts_rl hk0
  have hg : Glob 1 ρ (1 + 1) := tab_glob.mono hle
  exact law_calls (ng := 1) (ρ := ρ) (n := 1 + 1) hmix TA_ok (law7 c0 l b h cap ⟨x0, y0, x1, y1⟩ m (1 + 1) hr (by omega) false (by rw [hold 0 (by omega)]; exact upd_same _ _ _)) hm hg
    ⟨_, _, rfl, ⟨_, rfl, _, _, rfl, hc, _, _, rfl, ⟨rfl, rfl⟩, _, _, rfl, ⟨rfl, rfl⟩, _, _, rfl, ⟨rfl, rfl⟩, _, _, rfl, ⟨rfl, rfl⟩, _, _, rfl, ⟨rfl, rfl⟩, _, _, rfl, ⟨rfl, rfl⟩, _, _, rfl, ⟨rfl, rfl⟩, rfl⟩, rfl⟩ hh

end Go.Proofs.YtidpeongblkcbaaDoor.Sy
