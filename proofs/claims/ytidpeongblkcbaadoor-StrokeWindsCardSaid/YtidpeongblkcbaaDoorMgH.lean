import Derived.Test.YtidpeongblkcbaaDoorMgG
/- Boxes walked: joined, has, the bound of points, the reach. Conditions: those that each theorem names. -/
namespace Go.Proofs.YtidpeongblkcbaaDoor.Sy
open Go Go.Proofs
set_option linter.unusedSimpArgs false
set_option linter.unusedVariables false
set_option maxRecDepth 20000
attribute [local go_sem] XK_seq XK_block XK_skip XK_exit XK_ret XK_cond XK_reg XK_dreg XK_ureg KN_seq KN_blk KN_lp KN_chk KN_chku KN_top KN_fin KX_seq KX_lp KX_blk KX_chk KX_top KR_seq KR_blk KR_lp KR_chk KR_top KR_fin FK_true FK_false RK_nil RK_mv RK_pick RK_alloc RK_box RK_build RK_bslice RK_load1 RK_loadA RK_store RK_nilchk RK_bin RK_beq RK_eqv RK_eqnil RK_un RK_conv RK_mkfn RK_mkslice RK_slS RK_slA RK_fadr RK_fld RK_iadrA RK_iadrS RK_idxA RK_ext RK_lenC RK_cap RK_app RK_cpy RK_mn RK_mx RK_len RK_carry RK_clr carryR um0 um1 ThenK_some RK_guard GK_tt GK_ff GK_tf GK_ft GK_none QK_some RK_callQ RK_callZ VK_clo RK_callV
  evalOp evO evOs upd_at unfrz_at putE_some putE_none boolOf_b boolOf_tup Option.map_some evRes pack_one pack_two pack_three pack_none List.getD_cons_zero List.getD_cons_succ getD_nil
  Option.some.injEq exists_eq_left' Reg.cs? fillC setL List.set_cons_zero List.set_cons_succ List.length_cons List.length_nil rd_upd rd_updn rdB wr List.drop_zero List.drop_succ_cons List.take_succ_cons List.take_zero List.getElem?_cons_zero List.getElem?_cons_succ
  ix Int.toNat_zero lenO_sl lenO_nil nadd na_eq na_eq' na_lt na_ee na_ll na_ne na_ne' na_tt
attribute [local go_sem] Reg.flat_one Reg.flat_agg Reg.flat_tup flats_nil flats_cons Cell.flat_sc Cell.flat_ptr List.all_cons List.all_nil disOk safeOk safeR decide_eq_true_eq decide_eq_false_iff_not
  List.map_cons List.map_nil List.cons_append List.nil_append List.append_nil evalOp.capsOf Bool.false_bne Bool.bne_false Bool.true_bne Bool.bne_true bne_self_eq_false beq_self_eq_true Bool.not_not Bool.false_and Bool.and_false Bool.true_or Bool.or_true beq_iff_eq eqCells
  Bool.true_beq Bool.false_beq Bool.not_eq_true' Bool.not_eq_eq_eq_not Bool.not_eq_false' and_false false_and frz_at idOf Option.isSome_some Bool.and_eq_true
attribute [local go_sem] wr_eq bV_add bV_sub bV_mul bV_eql bV_neq bV_lss bV_leq bV_gtr bV_geq bV_quo bV_rem bV_shr bV_shl uV_not uV_neg wrapU bits_and bits_or bits_xor IntKind.bits Nat.min_eq_left Nat.min_eq_right Nat.min_self
attribute [local go_sem] bne_iff_ne Int.cast_ofNat_Int Nat.zero_add Nat.add_zero and_self and_true true_and ne_eq not_false_eq_true not_true_eq_false decide_true decide_false Bool.false_eq_true Bool.not_true Bool.not_false Bool.true_and Bool.and_true Bool.or_false Bool.false_or Bool.and_self

structure Bx where
  x0 : Int
  y0 : Int
  x1 : Int
  y1 : Int
abbrev Bx.cs (b : Bx) : List Cell := [I b.x0, I b.y0, I b.x1, I b.y1]
abbrev Bx.r (b : Bx) : Reg := .agg [I b.x0, I b.y0, I b.x1, I b.y1]
def Bx.emp (b : Bx) : Bool := decide (b.x1 ≤ b.x0) || decide (b.y1 ≤ b.y0)
def Bx.has (b : Bx) (p : Pt) : Bool := decide (b.x0 ≤ p.x) && (decide (p.x < b.x1) && (decide (b.y0 ≤ p.y) && decide (p.y < b.y1)))
def Bx.join (b c : Bx) : Bx := if b.emp = true ∧ c.emp = true then ⟨0, 0, 0, 0⟩ else if b.emp = true then c else if c.emp = true then b else ⟨mnI b.x0 c.x0, mnI b.y0 c.y0, mxI b.x1 c.x1, mxI b.y1 c.y1⟩
theorem v_BEmpty (a b c d : Int) (m : Mem) (n : Nat) : callF TA 48 [.agg [I a, I b, I c, I d]] m n = some (RB (decide (c ≤ a) || decide (d ≤ b))) := by
  refine callF_of (Fn_ofK (fn := F48) rfl (by simp [F48]) ?_)
  by_cases h : c ≤ a
  · skip
    try simp only [r48_0, r48_1, c48, F48, h, Bool.true_or, go_sem, Int.reduceTMod, Int.reduceTDiv, Int.reduceDiv, Int.reduceMod, Int.reduceAdd, Int.reduceSub, Int.reduceMul, Int.reduceNeg, Int.reducePow, Int.reduceEq, ↓reduceIte, Nat.reduceEqDiff, Nat.reduceAdd, Nat.reduceMul, Nat.reduceLeDiff, Nat.reduceSub, Nat.reduceLT, Int.reduceToNat, Int.reduceLT, Int.reduceLE, reduceCtorEq]
    repeat' ((first | refine FK_split (fun h_ => ?_) (fun h_ => ?_) | refine GK_split (fun h_ => ?_) (fun h_ => ?_) | refine ite_both (fun h_ => ?_) (fun h_ => ?_)) <;> (try simp only [decide_eq_true_eq, decide_eq_false_iff_not, Bool.not_true, Bool.not_false, Bool.not_eq_true', Bool.not_eq_false', Bool.not_eq_eq_eq_not, Decidable.not_not] at h_) <;> (try simp only [r48_0, r48_1, c48, F48, h, Bool.true_or, h_, go_sem, Int.reduceTMod, Int.reduceTDiv, Int.reduceDiv, Int.reduceMod, Int.reduceAdd, Int.reduceSub, Int.reduceMul, Int.reduceNeg, Int.reducePow, Int.reduceEq, ↓reduceIte, Nat.reduceEqDiff, Nat.reduceAdd, Nat.reduceMul, Nat.reduceLeDiff, Nat.reduceSub, Nat.reduceLT, Int.reduceToNat, Int.reduceLT, Int.reduceLE, reduceCtorEq]))
  · skip
    try simp only [r48_0, r48_1, c48, F48, h, Bool.false_or, go_sem, Int.reduceTMod, Int.reduceTDiv, Int.reduceDiv, Int.reduceMod, Int.reduceAdd, Int.reduceSub, Int.reduceMul, Int.reduceNeg, Int.reducePow, Int.reduceEq, ↓reduceIte, Nat.reduceEqDiff, Nat.reduceAdd, Nat.reduceMul, Nat.reduceLeDiff, Nat.reduceSub, Nat.reduceLT, Int.reduceToNat, Int.reduceLT, Int.reduceLE, reduceCtorEq]
    repeat' ((first | refine FK_split (fun h_ => ?_) (fun h_ => ?_) | refine GK_split (fun h_ => ?_) (fun h_ => ?_) | refine ite_both (fun h_ => ?_) (fun h_ => ?_)) <;> (try simp only [decide_eq_true_eq, decide_eq_false_iff_not, Bool.not_true, Bool.not_false, Bool.not_eq_true', Bool.not_eq_false', Bool.not_eq_eq_eq_not, Decidable.not_not] at h_) <;> (try simp only [r48_0, r48_1, c48, F48, h, Bool.false_or, h_, go_sem, Int.reduceTMod, Int.reduceTDiv, Int.reduceDiv, Int.reduceMod, Int.reduceAdd, Int.reduceSub, Int.reduceMul, Int.reduceNeg, Int.reducePow, Int.reduceEq, ↓reduceIte, Nat.reduceEqDiff, Nat.reduceAdd, Nat.reduceMul, Nat.reduceLeDiff, Nat.reduceSub, Nat.reduceLT, Int.reduceToNat, Int.reduceLT, Int.reduceLE, reduceCtorEq]))
theorem v_BJoin (b c : Bx) (m : Mem) (n : Nat) : callF TA 49 [.agg [I b.x0, I b.y0, I b.x1, I b.y1], .agg [I c.x0, I c.y0, I c.x1, I c.y1]] m n = some (b.join c).r := by
  refine callF_of (Fn_ofK (fn := F49) rfl (by simp [F49]) ?_)
  have eb : b.emp = (decide (b.x1 ≤ b.x0) || decide (b.y1 ≤ b.y0)) := rfl
  have ec : c.emp = (decide (c.x1 ≤ c.x0) || decide (c.y1 ≤ c.y0)) := rfl
  have vb := v_BEmpty b.x0 b.y0 b.x1 b.y1
  have vc := v_BEmpty c.x0 c.y0 c.x1 c.y1
  rw [← eb] at vb
  rw [← ec] at vc
  unfold Bx.join
  cases hb : b.emp <;> cases hc : c.emp <;> rw [hb] at vb <;> rw [hc] at vc
  · skip
    try simp only [r49_0, r49_1, r49_2, r49_3, r49_4, r49_5, r49_6, r49_7, c49, F49, vb, vc, minI_two, maxI_two, go_sem, Int.reduceTMod, Int.reduceTDiv, Int.reduceDiv, Int.reduceMod, Int.reduceAdd, Int.reduceSub, Int.reduceMul, Int.reduceNeg, Int.reducePow, Int.reduceEq, ↓reduceIte, Nat.reduceEqDiff, Nat.reduceAdd, Nat.reduceMul, Nat.reduceLeDiff, Nat.reduceSub, Nat.reduceLT, Int.reduceToNat, Int.reduceLT, Int.reduceLE, reduceCtorEq]
    repeat' ((first | refine FK_split (fun h_ => ?_) (fun h_ => ?_) | refine GK_split (fun h_ => ?_) (fun h_ => ?_) | refine ite_both (fun h_ => ?_) (fun h_ => ?_)) <;> (try simp only [decide_eq_true_eq, decide_eq_false_iff_not, Bool.not_true, Bool.not_false, Bool.not_eq_true', Bool.not_eq_false', Bool.not_eq_eq_eq_not, Decidable.not_not] at h_) <;> (try simp only [r49_0, r49_1, r49_2, r49_3, r49_4, r49_5, r49_6, r49_7, c49, F49, vb, vc, minI_two, maxI_two, h_, go_sem, Int.reduceTMod, Int.reduceTDiv, Int.reduceDiv, Int.reduceMod, Int.reduceAdd, Int.reduceSub, Int.reduceMul, Int.reduceNeg, Int.reducePow, Int.reduceEq, ↓reduceIte, Nat.reduceEqDiff, Nat.reduceAdd, Nat.reduceMul, Nat.reduceLeDiff, Nat.reduceSub, Nat.reduceLT, Int.reduceToNat, Int.reduceLT, Int.reduceLE, reduceCtorEq]))
  · skip
    try simp only [r49_0, r49_1, r49_2, r49_3, r49_4, r49_5, r49_6, r49_7, c49, F49, vb, vc, minI_two, maxI_two, go_sem, Int.reduceTMod, Int.reduceTDiv, Int.reduceDiv, Int.reduceMod, Int.reduceAdd, Int.reduceSub, Int.reduceMul, Int.reduceNeg, Int.reducePow, Int.reduceEq, ↓reduceIte, Nat.reduceEqDiff, Nat.reduceAdd, Nat.reduceMul, Nat.reduceLeDiff, Nat.reduceSub, Nat.reduceLT, Int.reduceToNat, Int.reduceLT, Int.reduceLE, reduceCtorEq]
    repeat' ((first | refine FK_split (fun h_ => ?_) (fun h_ => ?_) | refine GK_split (fun h_ => ?_) (fun h_ => ?_) | refine ite_both (fun h_ => ?_) (fun h_ => ?_)) <;> (try simp only [decide_eq_true_eq, decide_eq_false_iff_not, Bool.not_true, Bool.not_false, Bool.not_eq_true', Bool.not_eq_false', Bool.not_eq_eq_eq_not, Decidable.not_not] at h_) <;> (try simp only [r49_0, r49_1, r49_2, r49_3, r49_4, r49_5, r49_6, r49_7, c49, F49, vb, vc, minI_two, maxI_two, h_, go_sem, Int.reduceTMod, Int.reduceTDiv, Int.reduceDiv, Int.reduceMod, Int.reduceAdd, Int.reduceSub, Int.reduceMul, Int.reduceNeg, Int.reducePow, Int.reduceEq, ↓reduceIte, Nat.reduceEqDiff, Nat.reduceAdd, Nat.reduceMul, Nat.reduceLeDiff, Nat.reduceSub, Nat.reduceLT, Int.reduceToNat, Int.reduceLT, Int.reduceLE, reduceCtorEq]))
  · skip
    try simp only [r49_0, r49_1, r49_2, r49_3, r49_4, r49_5, r49_6, r49_7, c49, F49, vb, vc, minI_two, maxI_two, go_sem, Int.reduceTMod, Int.reduceTDiv, Int.reduceDiv, Int.reduceMod, Int.reduceAdd, Int.reduceSub, Int.reduceMul, Int.reduceNeg, Int.reducePow, Int.reduceEq, ↓reduceIte, Nat.reduceEqDiff, Nat.reduceAdd, Nat.reduceMul, Nat.reduceLeDiff, Nat.reduceSub, Nat.reduceLT, Int.reduceToNat, Int.reduceLT, Int.reduceLE, reduceCtorEq]
    repeat' ((first | refine FK_split (fun h_ => ?_) (fun h_ => ?_) | refine GK_split (fun h_ => ?_) (fun h_ => ?_) | refine ite_both (fun h_ => ?_) (fun h_ => ?_)) <;> (try simp only [decide_eq_true_eq, decide_eq_false_iff_not, Bool.not_true, Bool.not_false, Bool.not_eq_true', Bool.not_eq_false', Bool.not_eq_eq_eq_not, Decidable.not_not] at h_) <;> (try simp only [r49_0, r49_1, r49_2, r49_3, r49_4, r49_5, r49_6, r49_7, c49, F49, vb, vc, minI_two, maxI_two, h_, go_sem, Int.reduceTMod, Int.reduceTDiv, Int.reduceDiv, Int.reduceMod, Int.reduceAdd, Int.reduceSub, Int.reduceMul, Int.reduceNeg, Int.reducePow, Int.reduceEq, ↓reduceIte, Nat.reduceEqDiff, Nat.reduceAdd, Nat.reduceMul, Nat.reduceLeDiff, Nat.reduceSub, Nat.reduceLT, Int.reduceToNat, Int.reduceLT, Int.reduceLE, reduceCtorEq]))
  · skip
    try simp only [r49_0, r49_1, r49_2, r49_3, r49_4, r49_5, r49_6, r49_7, c49, F49, vb, vc, minI_two, maxI_two, go_sem, Int.reduceTMod, Int.reduceTDiv, Int.reduceDiv, Int.reduceMod, Int.reduceAdd, Int.reduceSub, Int.reduceMul, Int.reduceNeg, Int.reducePow, Int.reduceEq, ↓reduceIte, Nat.reduceEqDiff, Nat.reduceAdd, Nat.reduceMul, Nat.reduceLeDiff, Nat.reduceSub, Nat.reduceLT, Int.reduceToNat, Int.reduceLT, Int.reduceLE, reduceCtorEq]
    repeat' ((first | refine FK_split (fun h_ => ?_) (fun h_ => ?_) | refine GK_split (fun h_ => ?_) (fun h_ => ?_) | refine ite_both (fun h_ => ?_) (fun h_ => ?_)) <;> (try simp only [decide_eq_true_eq, decide_eq_false_iff_not, Bool.not_true, Bool.not_false, Bool.not_eq_true', Bool.not_eq_false', Bool.not_eq_eq_eq_not, Decidable.not_not] at h_) <;> (try simp only [r49_0, r49_1, r49_2, r49_3, r49_4, r49_5, r49_6, r49_7, c49, F49, vb, vc, minI_two, maxI_two, h_, go_sem, Int.reduceTMod, Int.reduceTDiv, Int.reduceDiv, Int.reduceMod, Int.reduceAdd, Int.reduceSub, Int.reduceMul, Int.reduceNeg, Int.reducePow, Int.reduceEq, ↓reduceIte, Nat.reduceEqDiff, Nat.reduceAdd, Nat.reduceMul, Nat.reduceLeDiff, Nat.reduceSub, Nat.reduceLT, Int.reduceToNat, Int.reduceLT, Int.reduceLE, reduceCtorEq]))
theorem v_BHas (a b c d x y : Int) (m : Mem) (n : Nat) : callF TA 24 [.agg [I a, I b, I c, I d], .agg [I x, I y]] m n = some (RB ((Bx.mk a b c d).has ⟨x, y⟩)) := by
  refine callF_of (Fn_ofK (fn := F24) rfl (by simp [F24]) ?_)
  unfold Bx.has
  by_cases h1 : a ≤ x
  · by_cases h2 : x < c
    · by_cases h3 : b ≤ y
      · skip
        try simp only [r24_0, r24_1, c24, F24, h1, h2, h3, go_sem, Int.reduceTMod, Int.reduceTDiv, Int.reduceDiv, Int.reduceMod, Int.reduceAdd, Int.reduceSub, Int.reduceMul, Int.reduceNeg, Int.reducePow, Int.reduceEq, ↓reduceIte, Nat.reduceEqDiff, Nat.reduceAdd, Nat.reduceMul, Nat.reduceLeDiff, Nat.reduceSub, Nat.reduceLT, Int.reduceToNat, Int.reduceLT, Int.reduceLE, reduceCtorEq]
        repeat' ((first | refine FK_split (fun h_ => ?_) (fun h_ => ?_) | refine GK_split (fun h_ => ?_) (fun h_ => ?_) | refine ite_both (fun h_ => ?_) (fun h_ => ?_)) <;> (try simp only [decide_eq_true_eq, decide_eq_false_iff_not, Bool.not_true, Bool.not_false, Bool.not_eq_true', Bool.not_eq_false', Bool.not_eq_eq_eq_not, Decidable.not_not] at h_) <;> (try simp only [r24_0, r24_1, c24, F24, h1, h2, h3, h_, go_sem, Int.reduceTMod, Int.reduceTDiv, Int.reduceDiv, Int.reduceMod, Int.reduceAdd, Int.reduceSub, Int.reduceMul, Int.reduceNeg, Int.reducePow, Int.reduceEq, ↓reduceIte, Nat.reduceEqDiff, Nat.reduceAdd, Nat.reduceMul, Nat.reduceLeDiff, Nat.reduceSub, Nat.reduceLT, Int.reduceToNat, Int.reduceLT, Int.reduceLE, reduceCtorEq]))
      · skip
        try simp only [r24_0, r24_1, c24, F24, h1, h2, h3, go_sem, Int.reduceTMod, Int.reduceTDiv, Int.reduceDiv, Int.reduceMod, Int.reduceAdd, Int.reduceSub, Int.reduceMul, Int.reduceNeg, Int.reducePow, Int.reduceEq, ↓reduceIte, Nat.reduceEqDiff, Nat.reduceAdd, Nat.reduceMul, Nat.reduceLeDiff, Nat.reduceSub, Nat.reduceLT, Int.reduceToNat, Int.reduceLT, Int.reduceLE, reduceCtorEq]
        repeat' ((first | refine FK_split (fun h_ => ?_) (fun h_ => ?_) | refine GK_split (fun h_ => ?_) (fun h_ => ?_) | refine ite_both (fun h_ => ?_) (fun h_ => ?_)) <;> (try simp only [decide_eq_true_eq, decide_eq_false_iff_not, Bool.not_true, Bool.not_false, Bool.not_eq_true', Bool.not_eq_false', Bool.not_eq_eq_eq_not, Decidable.not_not] at h_) <;> (try simp only [r24_0, r24_1, c24, F24, h1, h2, h3, h_, go_sem, Int.reduceTMod, Int.reduceTDiv, Int.reduceDiv, Int.reduceMod, Int.reduceAdd, Int.reduceSub, Int.reduceMul, Int.reduceNeg, Int.reducePow, Int.reduceEq, ↓reduceIte, Nat.reduceEqDiff, Nat.reduceAdd, Nat.reduceMul, Nat.reduceLeDiff, Nat.reduceSub, Nat.reduceLT, Int.reduceToNat, Int.reduceLT, Int.reduceLE, reduceCtorEq]))
    · skip
      try simp only [r24_0, r24_1, c24, F24, h1, h2, go_sem, Int.reduceTMod, Int.reduceTDiv, Int.reduceDiv, Int.reduceMod, Int.reduceAdd, Int.reduceSub, Int.reduceMul, Int.reduceNeg, Int.reducePow, Int.reduceEq, ↓reduceIte, Nat.reduceEqDiff, Nat.reduceAdd, Nat.reduceMul, Nat.reduceLeDiff, Nat.reduceSub, Nat.reduceLT, Int.reduceToNat, Int.reduceLT, Int.reduceLE, reduceCtorEq]
      repeat' ((first | refine FK_split (fun h_ => ?_) (fun h_ => ?_) | refine GK_split (fun h_ => ?_) (fun h_ => ?_) | refine ite_both (fun h_ => ?_) (fun h_ => ?_)) <;> (try simp only [decide_eq_true_eq, decide_eq_false_iff_not, Bool.not_true, Bool.not_false, Bool.not_eq_true', Bool.not_eq_false', Bool.not_eq_eq_eq_not, Decidable.not_not] at h_) <;> (try simp only [r24_0, r24_1, c24, F24, h1, h2, h_, go_sem, Int.reduceTMod, Int.reduceTDiv, Int.reduceDiv, Int.reduceMod, Int.reduceAdd, Int.reduceSub, Int.reduceMul, Int.reduceNeg, Int.reducePow, Int.reduceEq, ↓reduceIte, Nat.reduceEqDiff, Nat.reduceAdd, Nat.reduceMul, Nat.reduceLeDiff, Nat.reduceSub, Nat.reduceLT, Int.reduceToNat, Int.reduceLT, Int.reduceLE, reduceCtorEq]))
  · skip
    try simp only [r24_0, r24_1, c24, F24, h1, go_sem, Int.reduceTMod, Int.reduceTDiv, Int.reduceDiv, Int.reduceMod, Int.reduceAdd, Int.reduceSub, Int.reduceMul, Int.reduceNeg, Int.reducePow, Int.reduceEq, ↓reduceIte, Nat.reduceEqDiff, Nat.reduceAdd, Nat.reduceMul, Nat.reduceLeDiff, Nat.reduceSub, Nat.reduceLT, Int.reduceToNat, Int.reduceLT, Int.reduceLE, reduceCtorEq]
    repeat' ((first | refine FK_split (fun h_ => ?_) (fun h_ => ?_) | refine GK_split (fun h_ => ?_) (fun h_ => ?_) | refine ite_both (fun h_ => ?_) (fun h_ => ?_)) <;> (try simp only [decide_eq_true_eq, decide_eq_false_iff_not, Bool.not_true, Bool.not_false, Bool.not_eq_true', Bool.not_eq_false', Bool.not_eq_eq_eq_not, Decidable.not_not] at h_) <;> (try simp only [r24_0, r24_1, c24, F24, h1, h_, go_sem, Int.reduceTMod, Int.reduceTDiv, Int.reduceDiv, Int.reduceMod, Int.reduceAdd, Int.reduceSub, Int.reduceMul, Int.reduceNeg, Int.reducePow, Int.reduceEq, ↓reduceIte, Nat.reduceEqDiff, Nat.reduceAdd, Nat.reduceMul, Nat.reduceLeDiff, Nat.reduceSub, Nat.reduceLT, Int.reduceToNat, Int.reduceLT, Int.reduceLE, reduceCtorEq]))
def reachB (b : Bx) (h : Int) : Bx := if b.emp = true then ⟨0, 0, 0, 0⟩ else ⟨IntKind.i64.wrap (b.x0 - 2 * h), IntKind.i64.wrap (b.y0 - 2 * h), IntKind.i64.wrap (b.x1 + 2 * h), IntKind.i64.wrap (b.y1 + 2 * h)⟩
theorem v_Reach (b : Bx) {h : Int} (h1 : 1 ≤ h) (h2 : h ≤ 32768) (m : Mem) (n : Nat) : callF TA 22 [.agg [I b.x0, I b.y0, I b.x1, I b.y1], RI h] m n = some (reachB b h).r := by
  refine callF_of (Fn_ofK (fn := F22) rfl (by simp [F22]) ?_)
  have eb : b.emp = (decide (b.x1 ≤ b.x0) || decide (b.y1 ≤ b.y0)) := rfl
  have vb := v_BEmpty b.x0 b.y0 b.x1 b.y1
  have w : IntKind.i64.wrap (2 * h) = 2 * h := wr_eq (by omega) (by omega)
  rw [← eb] at vb
  unfold reachB
  cases hb : b.emp <;> rw [hb] at vb
  · skip
    try simp only [r22_0, r22_1, r22_2, r22_3, c22, F22, vb, w, go_sem, Int.reduceTMod, Int.reduceTDiv, Int.reduceDiv, Int.reduceMod, Int.reduceAdd, Int.reduceSub, Int.reduceMul, Int.reduceNeg, Int.reducePow, Int.reduceEq, ↓reduceIte, Nat.reduceEqDiff, Nat.reduceAdd, Nat.reduceMul, Nat.reduceLeDiff, Nat.reduceSub, Nat.reduceLT, Int.reduceToNat, Int.reduceLT, Int.reduceLE, reduceCtorEq]
    repeat' ((first | refine FK_split (fun h_ => ?_) (fun h_ => ?_) | refine GK_split (fun h_ => ?_) (fun h_ => ?_) | refine ite_both (fun h_ => ?_) (fun h_ => ?_)) <;> (try simp only [decide_eq_true_eq, decide_eq_false_iff_not, Bool.not_true, Bool.not_false, Bool.not_eq_true', Bool.not_eq_false', Bool.not_eq_eq_eq_not, Decidable.not_not] at h_) <;> (try simp only [r22_0, r22_1, r22_2, r22_3, c22, F22, vb, w, h_, go_sem, Int.reduceTMod, Int.reduceTDiv, Int.reduceDiv, Int.reduceMod, Int.reduceAdd, Int.reduceSub, Int.reduceMul, Int.reduceNeg, Int.reducePow, Int.reduceEq, ↓reduceIte, Nat.reduceEqDiff, Nat.reduceAdd, Nat.reduceMul, Nat.reduceLeDiff, Nat.reduceSub, Nat.reduceLT, Int.reduceToNat, Int.reduceLT, Int.reduceLE, reduceCtorEq]))
  · skip
    try simp only [r22_0, r22_1, r22_2, r22_3, c22, F22, vb, w, go_sem, Int.reduceTMod, Int.reduceTDiv, Int.reduceDiv, Int.reduceMod, Int.reduceAdd, Int.reduceSub, Int.reduceMul, Int.reduceNeg, Int.reducePow, Int.reduceEq, ↓reduceIte, Nat.reduceEqDiff, Nat.reduceAdd, Nat.reduceMul, Nat.reduceLeDiff, Nat.reduceSub, Nat.reduceLT, Int.reduceToNat, Int.reduceLT, Int.reduceLE, reduceCtorEq]
    repeat' ((first | refine FK_split (fun h_ => ?_) (fun h_ => ?_) | refine GK_split (fun h_ => ?_) (fun h_ => ?_) | refine ite_both (fun h_ => ?_) (fun h_ => ?_)) <;> (try simp only [decide_eq_true_eq, decide_eq_false_iff_not, Bool.not_true, Bool.not_false, Bool.not_eq_true', Bool.not_eq_false', Bool.not_eq_eq_eq_not, Decidable.not_not] at h_) <;> (try simp only [r22_0, r22_1, r22_2, r22_3, c22, F22, vb, w, h_, go_sem, Int.reduceTMod, Int.reduceTDiv, Int.reduceDiv, Int.reduceMod, Int.reduceAdd, Int.reduceSub, Int.reduceMul, Int.reduceNeg, Int.reducePow, Int.reduceEq, ↓reduceIte, Nat.reduceEqDiff, Nat.reduceAdd, Nat.reduceMul, Nat.reduceLeDiff, Nat.reduceSub, Nat.reduceLT, Int.reduceToNat, Int.reduceLT, Int.reduceLE, reduceCtorEq]))
/-- The bound of points. -/
def bndL (l : List Pt) : Bx := l.foldl (fun b p => b.join ⟨p.x, p.y, p.x + 1, p.y + 1⟩) ⟨0, 0, 0, 0⟩
theorem bnd_spec (l : List Pt) (hl : l.all inP = true) : (l ≠ [] → (bndL l).emp = false) ∧ (∀ p ∈ l, ((bndL l).x0 ≤ p.x ∧ p.x < (bndL l).x1) ∧ (bndL l).y0 ≤ p.y ∧ p.y < (bndL l).y1) ∧
    ((-2147483648 ≤ (bndL l).x0 ∧ (bndL l).x1 ≤ 2147483649) ∧ -2147483648 ≤ (bndL l).y0 ∧ (bndL l).y1 ≤ 2147483649) := by
  suffices H : ∀ (k : List Pt), k.all inP = true → ∀ (b : Bx) (s : List Pt), ((s = [] → b = ⟨0, 0, 0, 0⟩) ∧ (s ≠ [] → b.emp = false) ∧ (∀ p ∈ s, (b.x0 ≤ p.x ∧ p.x < b.x1) ∧ b.y0 ≤ p.y ∧ p.y < b.y1) ∧ ((-2147483648 ≤ b.x0 ∧ b.x1 ≤ 2147483649) ∧ -2147483648 ≤ b.y0 ∧ b.y1 ≤ 2147483649)) →
      let r := k.foldl (fun b p => b.join ⟨p.x, p.y, p.x + 1, p.y + 1⟩) b
      (s ++ k ≠ [] → r.emp = false) ∧ (∀ p ∈ s ++ k, (r.x0 ≤ p.x ∧ p.x < r.x1) ∧ r.y0 ≤ p.y ∧ p.y < r.y1) ∧ ((-2147483648 ≤ r.x0 ∧ r.x1 ≤ 2147483649) ∧ -2147483648 ≤ r.y0 ∧ r.y1 ≤ 2147483649) by
    have := H l hl ⟨0, 0, 0, 0⟩ [] ⟨fun _ => rfl, fun h => absurd rfl h, fun p hp => (by cases hp), by simp⟩
    simpa [bndL] using this
  intro k
  induction k with
  | nil =>
    intro _ b s ⟨h1, h2, h3, h4⟩
    simp only [List.foldl_nil, List.append_nil]
    exact ⟨h2, h3, h4⟩
  | cons p k ih =>
    intro hk b s ⟨h1, h2, h3, h4⟩
    rw [List.all_cons, Bool.and_eq_true] at hk
    have ip : inP ⟨p.x, p.y⟩ = true := hk.1
    simp only [inP, Bool.and_eq_true, rm_iff] at ip
    have hu : (Bx.mk p.x p.y (p.x + 1) (p.y + 1)).emp = false := by
      unfold Bx.emp
      rw [Bool.or_eq_false_iff]
      exact ⟨decide_eq_false (by simp only; omega), decide_eq_false (by simp only; omega)⟩
    have key := ih hk.2 (b.join ⟨p.x, p.y, p.x + 1, p.y + 1⟩) (s ++ [p]) ?_
    · simp only [List.foldl_cons]
      rw [List.append_assoc] at key
      exact key
    · refine ⟨fun h => by simp at h, ?_⟩
      by_cases hs : s = []
      · have hb := h1 hs
        have he : b.emp = true := by rw [hb]; rfl
        have hj : b.join ⟨p.x, p.y, p.x + 1, p.y + 1⟩ = ⟨p.x, p.y, p.x + 1, p.y + 1⟩ := by
          unfold Bx.join
          rw [hu, he]
          simp
        rw [hj, hs]
        refine ⟨fun _ => hu, fun q hq => ?_, by simp only; omega⟩
        simp at hq
        subst hq
        simp only
        omega
      · have he := h2 hs
        have hj : b.join ⟨p.x, p.y, p.x + 1, p.y + 1⟩ = ⟨mnI b.x0 p.x, mnI b.y0 p.y, mxI b.x1 (p.x + 1), mxI b.y1 (p.y + 1)⟩ := by
          unfold Bx.join
          rw [hu, he]
          simp
        rw [hj]
        have m1 : mnI b.x0 p.x ≤ b.x0 ∧ mnI b.x0 p.x ≤ p.x ∧ (mnI b.x0 p.x = b.x0 ∨ mnI b.x0 p.x = p.x) := by unfold mnI; split <;> omega
        have m2 : mnI b.y0 p.y ≤ b.y0 ∧ mnI b.y0 p.y ≤ p.y ∧ (mnI b.y0 p.y = b.y0 ∨ mnI b.y0 p.y = p.y) := by unfold mnI; split <;> omega
        have m3 : b.x1 ≤ mxI b.x1 (p.x + 1) ∧ p.x + 1 ≤ mxI b.x1 (p.x + 1) ∧ (mxI b.x1 (p.x + 1) = b.x1 ∨ mxI b.x1 (p.x + 1) = p.x + 1) := by unfold mxI; split <;> omega
        have m4 : b.y1 ≤ mxI b.y1 (p.y + 1) ∧ p.y + 1 ≤ mxI b.y1 (p.y + 1) ∧ (mxI b.y1 (p.y + 1) = b.y1 ∨ mxI b.y1 (p.y + 1) = p.y + 1) := by unfold mxI; split <;> omega
        refine ⟨fun _ => ?_, fun q hq => ?_, by simp only; omega⟩
        · unfold Bx.emp
          rw [Bool.or_eq_false_iff]
          exact ⟨decide_eq_false (by simp only; omega), decide_eq_false (by simp only; omega)⟩
        · rw [List.mem_append, List.mem_singleton] at hq
          rcases hq with hq | rfl
          · have := h3 q hq
            simp only
            omega
          · simp only
            omega
theorem bnd_snoc (l : List Pt) (p : Pt) : bndL (l ++ [p]) = (bndL l).join ⟨p.x, p.y, p.x + 1, p.y + 1⟩ := by
  unfold bndL
  rw [List.foldl_append]
  rfl
theorem v_Bound (r : Reg) (l : List Pt) (m : Mem) (n : Nat) (hr : RPt m n r l) (hl : l.length < 4294967296) (hi : l.all inP = true) : callF TA 23 [r] m n = some (bndL l).r := by
  refine callF_of (Fn_ofK (fn := F23) rfl (by simp [F23]) ?_)
  have hlen := hr.len
  try simp only [r23_0, r23_1, r23_2, r23_3, r23_4, r23_5, r23_6, r23_7, c23, F23, hlen, go_sem, Int.reduceTMod, Int.reduceTDiv, Int.reduceDiv, Int.reduceMod, Int.reduceAdd, Int.reduceSub, Int.reduceMul, Int.reduceNeg, Int.reducePow, Int.reduceEq, ↓reduceIte, Nat.reduceEqDiff, Nat.reduceAdd, Nat.reduceMul, Nat.reduceLeDiff, Nat.reduceSub, Nat.reduceLT, Int.reduceToNat, Int.reduceLT, Int.reduceLE, reduceCtorEq]
  repeat' ((first | refine FK_split (fun h_ => ?_) (fun h_ => ?_) | refine GK_split (fun h_ => ?_) (fun h_ => ?_) | refine ite_both (fun h_ => ?_) (fun h_ => ?_)) <;> (try simp only [decide_eq_true_eq, decide_eq_false_iff_not, Bool.not_true, Bool.not_false, Bool.not_eq_true', Bool.not_eq_false', Bool.not_eq_eq_eq_not, Decidable.not_not] at h_) <;> (try simp only [r23_0, r23_1, r23_2, r23_3, r23_4, r23_5, r23_6, r23_7, c23, F23, hlen, h_, go_sem, Int.reduceTMod, Int.reduceTDiv, Int.reduceDiv, Int.reduceMod, Int.reduceAdd, Int.reduceSub, Int.reduceMul, Int.reduceNeg, Int.reducePow, Int.reduceEq, ↓reduceIte, Nat.reduceEqDiff, Nat.reduceAdd, Nat.reduceMul, Nat.reduceLeDiff, Nat.reduceSub, Nat.reduceLT, Int.reduceToNat, Int.reduceLT, Int.reduceLE, reduceCtorEq]))
  refine XK_iter (inv := fun i s => s.e 8 = RI i ∧ s.e 7 = RI l.length ∧ s.e 6 = r ∧ s.e 2 = .one (.ptr n 0) ∧ s.e 3 = .one (.ptr (n + 1) 0) ∧ n + 2 ≤ s.n ∧ (∀ id, id < n → s.m id = m id) ∧ s.m n = some ⟨[I 0, I 0, I 0, I 0], true⟩ ∧ s.m (n + 1) = some ⟨(bndL (l.take i)).cs, true⟩) l.length
    (fun L _ => ⟨fun i hi' s hs next => ?_, fun s hs => ?_⟩) 0 (by omega) _ ?_
  · obtain ⟨e, M, N⟩ := s
    obtain ⟨q8, q7, q6, q2, q3, qn, qm, qb, qx⟩ := hs
    simp only at q8 q7 q6 q2 q3 qn qm qb qx
    have hp : l[i]? = some l[i] := List.getElem?_eq_getElem hi'
    have hr2 : RPt M N r l := hr.keep (by omega) qm
    obtain ⟨id, off, cap, hr1, hid, hrd⟩ := hr2.at cs2 hp
    have ip : inP ⟨l[i].x, l[i].y⟩ = true := List.all_eq_true.1 hi _ (List.getElem_mem hi')
    have hsn : bndL (l.take (i + 1)) = _ := (congrArg bndL (take_snoc hp)).trans (bnd_snoc _ _)
    generalize l[i] = p at *
    simp only [inP, Bool.and_eq_true, rm_iff] at ip
    have c2 : ((i : Int) < (l.length : Int)) = True := eq_true (by omega)
    have c3 : (0 ≤ (i : Int)) = True := eq_true (by omega)
    have c7 : IntKind.i64.wrap ((i : Int) + 1) = ((i + 1 : Nat) : Int) := wr_nat (by omega)
    have w1 : IntKind.i64.wrap (p.x + 1) = p.x + 1 := wr_eq (by omega) (by omega)
    have w2 : IntKind.i64.wrap (p.y + 1) = p.y + 1 := wr_eq (by omega) (by omega)
    have vj := v_BJoin (bndL (l.take i)) ⟨p.x, p.y, p.x + 1, p.y + 1⟩
    rw [← hsn] at vj
    generalize bndL (l.take (i + 1)) = B1 at *
    generalize bndL (l.take i) = B0 at *
    rw [hr1] at q6
    have n1 := na_0 hid
    have n2 := na_0 (show n + 1 < N by omega)
    have n3 := na_0 (show n < N by omega)
    try simp only [r23_0, r23_1, r23_2, r23_3, r23_4, r23_5, r23_6, r23_7, c23, F23, l23_0, q8, q7, q6, q2, q3, c2, c3, c7, hrd, n1, n2, n3, w1, w2, qx, rd_of qx, vj, Int.toNat_natCast, go_sem, Int.reduceTMod, Int.reduceTDiv, Int.reduceDiv, Int.reduceMod, Int.reduceAdd, Int.reduceSub, Int.reduceMul, Int.reduceNeg, Int.reducePow, Int.reduceEq, ↓reduceIte, Nat.reduceEqDiff, Nat.reduceAdd, Nat.reduceMul, Nat.reduceLeDiff, Nat.reduceSub, Nat.reduceLT, Int.reduceToNat, Int.reduceLT, Int.reduceLE, reduceCtorEq]
    repeat' ((first | refine FK_split (fun h_ => ?_) (fun h_ => ?_) | refine GK_split (fun h_ => ?_) (fun h_ => ?_) | refine ite_both (fun h_ => ?_) (fun h_ => ?_)) <;> (try simp only [decide_eq_true_eq, decide_eq_false_iff_not, Bool.not_true, Bool.not_false, Bool.not_eq_true', Bool.not_eq_false', Bool.not_eq_eq_eq_not, Decidable.not_not] at h_) <;> (try simp only [r23_0, r23_1, r23_2, r23_3, r23_4, r23_5, r23_6, r23_7, c23, F23, l23_0, q8, q7, q6, q2, q3, c2, c3, c7, hrd, n1, n2, n3, w1, w2, qx, rd_of qx, vj, Int.toNat_natCast, h_, go_sem, Int.reduceTMod, Int.reduceTDiv, Int.reduceDiv, Int.reduceMod, Int.reduceAdd, Int.reduceSub, Int.reduceMul, Int.reduceNeg, Int.reducePow, Int.reduceEq, ↓reduceIte, Nat.reduceEqDiff, Nat.reduceAdd, Nat.reduceMul, Nat.reduceLeDiff, Nat.reduceSub, Nat.reduceLT, Int.reduceToNat, Int.reduceLT, Int.reduceLE, reduceCtorEq]))
    refine next _ ⟨?_, ?_, ?_, ?_, ?_, ?_, fun id hid => ?_, ?_, ?_⟩
    · simp only [go_sem, Int.reduceTMod, Int.reduceTDiv, Int.reduceDiv, Int.reduceMod, Int.reduceAdd, Int.reduceSub, Int.reduceMul, Int.reduceNeg, Int.reducePow, Int.reduceEq, ↓reduceIte, Nat.reduceEqDiff, Nat.reduceAdd, Nat.reduceMul, Nat.reduceLeDiff, Nat.reduceSub, Nat.reduceLT, Int.reduceToNat, Int.reduceLT, Int.reduceLE, reduceCtorEq]
    · simp only [q7, go_sem, Int.reduceTMod, Int.reduceTDiv, Int.reduceDiv, Int.reduceMod, Int.reduceAdd, Int.reduceSub, Int.reduceMul, Int.reduceNeg, Int.reducePow, Int.reduceEq, ↓reduceIte, Nat.reduceEqDiff, Nat.reduceAdd, Nat.reduceMul, Nat.reduceLeDiff, Nat.reduceSub, Nat.reduceLT, Int.reduceToNat, Int.reduceLT, Int.reduceLE, reduceCtorEq]
    · simp only [q6, hr1, go_sem, Int.reduceTMod, Int.reduceTDiv, Int.reduceDiv, Int.reduceMod, Int.reduceAdd, Int.reduceSub, Int.reduceMul, Int.reduceNeg, Int.reducePow, Int.reduceEq, ↓reduceIte, Nat.reduceEqDiff, Nat.reduceAdd, Nat.reduceMul, Nat.reduceLeDiff, Nat.reduceSub, Nat.reduceLT, Int.reduceToNat, Int.reduceLT, Int.reduceLE, reduceCtorEq]
    · simp only [q2, go_sem, Int.reduceTMod, Int.reduceTDiv, Int.reduceDiv, Int.reduceMod, Int.reduceAdd, Int.reduceSub, Int.reduceMul, Int.reduceNeg, Int.reducePow, Int.reduceEq, ↓reduceIte, Nat.reduceEqDiff, Nat.reduceAdd, Nat.reduceMul, Nat.reduceLeDiff, Nat.reduceSub, Nat.reduceLT, Int.reduceToNat, Int.reduceLT, Int.reduceLE, reduceCtorEq]
    · simp only [q3, go_sem, Int.reduceTMod, Int.reduceTDiv, Int.reduceDiv, Int.reduceMod, Int.reduceAdd, Int.reduceSub, Int.reduceMul, Int.reduceNeg, Int.reducePow, Int.reduceEq, ↓reduceIte, Nat.reduceEqDiff, Nat.reduceAdd, Nat.reduceMul, Nat.reduceLeDiff, Nat.reduceSub, Nat.reduceLT, Int.reduceToNat, Int.reduceLT, Int.reduceLE, reduceCtorEq]
    · simp only [go_sem, Int.reduceTMod, Int.reduceTDiv, Int.reduceDiv, Int.reduceMod, Int.reduceAdd, Int.reduceSub, Int.reduceMul, Int.reduceNeg, Int.reducePow, Int.reduceEq, ↓reduceIte, Nat.reduceEqDiff, Nat.reduceAdd, Nat.reduceMul, Nat.reduceLeDiff, Nat.reduceSub, Nat.reduceLT, Int.reduceToNat, Int.reduceLT, Int.reduceLE, reduceCtorEq]
      omega
    · simp only [na_0 (show id < N by omega), na_ne (show id < N by omega), go_sem, Int.reduceTMod, Int.reduceTDiv, Int.reduceDiv, Int.reduceMod, Int.reduceAdd, Int.reduceSub, Int.reduceMul, Int.reduceNeg, Int.reducePow, Int.reduceEq, ↓reduceIte, Nat.reduceEqDiff, Nat.reduceAdd, Nat.reduceMul, Nat.reduceLeDiff, Nat.reduceSub, Nat.reduceLT, Int.reduceToNat, Int.reduceLT, Int.reduceLE, reduceCtorEq]
      rw [if_neg (show ¬ id = n + 1 by omega)]
      exact qm id hid
    · simp only [qb, go_sem, Int.reduceTMod, Int.reduceTDiv, Int.reduceDiv, Int.reduceMod, Int.reduceAdd, Int.reduceSub, Int.reduceMul, Int.reduceNeg, Int.reducePow, Int.reduceEq, ↓reduceIte, Nat.reduceEqDiff, Nat.reduceAdd, Nat.reduceMul, Nat.reduceLeDiff, Nat.reduceSub, Nat.reduceLT, Int.reduceToNat, Int.reduceLT, Int.reduceLE, reduceCtorEq]
      rw [if_neg (show ¬ n = N by omega), if_neg (show ¬ n = N by omega)]
    · simp only [go_sem, Int.reduceTMod, Int.reduceTDiv, Int.reduceDiv, Int.reduceMod, Int.reduceAdd, Int.reduceSub, Int.reduceMul, Int.reduceNeg, Int.reducePow, Int.reduceEq, ↓reduceIte, Nat.reduceEqDiff, Nat.reduceAdd, Nat.reduceMul, Nat.reduceLeDiff, Nat.reduceSub, Nat.reduceLT, Int.reduceToNat, Int.reduceLT, Int.reduceLE, reduceCtorEq]
  · obtain ⟨e, M, N⟩ := s
    obtain ⟨q8, q7, q6, q2, q3, qn, qm, qb, qx⟩ := hs
    simp only at q8 q7 q6 q2 q3 qn qm qb qx
    have c2 : ((l.length : Int) < (l.length : Int)) = False := eq_false (by omega)
    rw [List.take_length] at qx
    try simp only [r23_0, r23_1, r23_2, r23_3, r23_4, r23_5, r23_6, r23_7, c23, F23, l23_0, q8, q7, q6, q2, q3, c2, qx, rd_of qx, qb, go_sem, Int.reduceTMod, Int.reduceTDiv, Int.reduceDiv, Int.reduceMod, Int.reduceAdd, Int.reduceSub, Int.reduceMul, Int.reduceNeg, Int.reducePow, Int.reduceEq, ↓reduceIte, Nat.reduceEqDiff, Nat.reduceAdd, Nat.reduceMul, Nat.reduceLeDiff, Nat.reduceSub, Nat.reduceLT, Int.reduceToNat, Int.reduceLT, Int.reduceLE, reduceCtorEq]
    repeat' ((first | refine FK_split (fun h_ => ?_) (fun h_ => ?_) | refine GK_split (fun h_ => ?_) (fun h_ => ?_) | refine ite_both (fun h_ => ?_) (fun h_ => ?_)) <;> (try simp only [decide_eq_true_eq, decide_eq_false_iff_not, Bool.not_true, Bool.not_false, Bool.not_eq_true', Bool.not_eq_false', Bool.not_eq_eq_eq_not, Decidable.not_not] at h_) <;> (try simp only [r23_0, r23_1, r23_2, r23_3, r23_4, r23_5, r23_6, r23_7, c23, F23, l23_0, q8, q7, q6, q2, q3, c2, qx, rd_of qx, qb, h_, go_sem, Int.reduceTMod, Int.reduceTDiv, Int.reduceDiv, Int.reduceMod, Int.reduceAdd, Int.reduceSub, Int.reduceMul, Int.reduceNeg, Int.reducePow, Int.reduceEq, ↓reduceIte, Nat.reduceEqDiff, Nat.reduceAdd, Nat.reduceMul, Nat.reduceLeDiff, Nat.reduceSub, Nat.reduceLT, Int.reduceToNat, Int.reduceLT, Int.reduceLE, reduceCtorEq]))
  · simp only [List.take_zero, go_sem, Int.reduceTMod, Int.reduceTDiv, Int.reduceDiv, Int.reduceMod, Int.reduceAdd, Int.reduceSub, Int.reduceMul, Int.reduceNeg, Int.reducePow, Int.reduceEq, ↓reduceIte, Nat.reduceEqDiff, Nat.reduceAdd, Nat.reduceMul, Nat.reduceLeDiff, Nat.reduceSub, Nat.reduceLT, Int.reduceToNat, Int.reduceLT, Int.reduceLE, reduceCtorEq]
    refine ⟨by omega, fun id hid => ?_, rfl⟩
    rw [if_neg (show ¬ id = n + 1 by omega), if_neg (show ¬ id = n by omega)]

/- All polygons of a pen: what holds of each part. Conditions: those that each theorem names. -/
open Go Go.Proofs
set_option linter.unusedVariables false

theorem pln_mem {l : List Pt} : ∀ {i : Nat} {a : Pt}, a ∈ pln l i → a ∈ l
  | 0, a, h => by cases h
  | i + 1, a, h => by
    rw [pln] at h
    split at h
    · rw [List.mem_append] at h
      rcases h with h | h
      · exact pln_mem h
      · cases hp : l[i]? with
        | none => rw [hp] at h; cases h
        | some p =>
          rw [hp] at h
          simp at h
          subst h
          exact List.mem_of_getElem? hp
    · exact pln_mem h
theorem plain_mem {l : List Pt} {c : Bool} {a : Pt} (h : a ∈ plainL l c) : a ∈ l := by
  unfold plainL at h
  split at h
  · obtain ⟨k, _, e⟩ := dropE_take (pln l l.length)
    rw [e] at h
    exact pln_mem (List.mem_of_mem_take h)
  · exact pln_mem h
theorem barAt_mem {h : Int} {q : List Pt} {i j : Nat} {x : Bool × List Pt} (hx : x ∈ barAt h q i j) : ∃ a b, a ∈ q ∧ b ∈ q ∧ x = barI h a b := by
  unfold barAt at hx
  split at hx
  · rename_i p r e1 e2
    rw [List.mem_singleton] at hx
    exact ⟨p, r, List.mem_of_getElem? e1, List.mem_of_getElem? e2, hx⟩
  · cases hx
theorem barsTo_mem {h : Int} {q : List Pt} : ∀ {i : Nat} {x : Bool × List Pt}, x ∈ barsTo h q i → ∃ a b, a ∈ q ∧ b ∈ q ∧ x = barI h a b
  | 0, x, hx => by cases hx
  | i + 1, x, hx => by
    rw [barsTo, List.mem_append] at hx
    rcases hx with hx | hx
    · exact barsTo_mem hx
    · exact barAt_mem hx
theorem discsTo_mem {h : Int} {q : List Pt} {c : Bool} : ∀ {i : Nat} {x : Bool × List Pt}, x ∈ discsTo h q c i → ∃ a, a ∈ q ∧ x = discI h a
  | 0, x, hx => by cases hx
  | i + 1, x, hx => by
    rw [discsTo, List.mem_append] at hx
    rcases hx with hx | hx
    · exact discsTo_mem hx
    · unfold discAt at hx
      split at hx
      · split at hx
        · rename_i p e1 _
          rw [List.mem_singleton] at hx
          exact ⟨p, List.mem_of_getElem? e1, hx⟩
        · cases hx
      · cases hx
/-- What holds of bars, discs, squares and caps of these points holds of all that a pen leaves. -/
theorem stroke_mem {P : Bool × List Pt → Prop} {q : List Pt} {h : Int} (hb : ∀ a b, a ∈ q → b ∈ q → P (barI h a b)) (hd : ∀ a, a ∈ q → P (discI h a)) (hs : ∀ a, a ∈ q → P (sqI h a))
    (hf : ∀ a b, a ∈ q → b ∈ q → P (firstI h a b)) (hl : ∀ a b, a ∈ q → b ∈ q → P (lastI h a b)) (c : Bool) (cap : Int) : ∀ x ∈ strokeI q c h cap, P x := fun x hx => by
  have d1 : ∀ (i : Nat), x ∈ at1 (fun p => [discI h p]) q i → P x := fun i hy => by
    obtain ⟨p, e, hy⟩ := at1_mem hy
    rw [List.mem_singleton] at hy
    subst hy
    exact hd p (List.mem_of_getElem? e)
  unfold strokeI at hx
  split at hx
  · split at hx
    · exact d1 _ hx
    · split at hx
      · obtain ⟨p, e, hx⟩ := at1_mem hx
        rw [List.mem_singleton] at hx
        subst hx
        exact hs p (List.mem_of_getElem? e)
      · cases hx
  · split at hx
    · rw [List.mem_append] at hx
      rcases hx with hx | hx
      · unfold alongI at hx
        rw [List.mem_append, List.mem_append] at hx
        rcases hx with (hx | hx) | hx
        · obtain ⟨a, b, ha, hb', rfl⟩ := barsTo_mem hx
          exact hb a b ha hb'
        · split at hx
          · obtain ⟨a, b, ha, hb', rfl⟩ := barAt_mem hx
            exact hb a b ha hb'
          · cases hx
        · obtain ⟨a, ha, rfl⟩ := discsTo_mem hx
          exact hd a ha
      · split at hx
        · cases hx
        · split at hx
          · rw [List.mem_append] at hx
            rcases hx with hx | hx
            · exact d1 _ hx
            · exact d1 _ hx
          · split at hx
            · rw [List.mem_append] at hx
              rcases hx with hx | hx
              · obtain ⟨p, r, e1, e2, rfl⟩ := at2_mem hx
                exact hf p r (List.mem_of_getElem? e1) (List.mem_of_getElem? e2)
              · obtain ⟨p, r, e1, e2, rfl⟩ := at2_mem hx
                exact hl p r (List.mem_of_getElem? e1) (List.mem_of_getElem? e2)
            · cases hx
    · cases hx
theorem sq_nn (x : Int) : 0 ≤ x * x := by
  rcases Int.le_total 0 x with h | h
  · exact Int.mul_nonneg h h
  · exact Int.mul_nonneg_of_nonpos_of_nonpos h h
theorem sN_nn (x y : Int) : 0 ≤ sN x y := (isq_spec (Int.add_nonneg (sq_nn x) (sq_nn y))).1
/-- A step is never longer than the half width. -/
theorem step_all (x y : Int) {h : Int} (h0 : 0 ≤ h) (z : Int) (hz : z = x ∨ z = y ∨ z = -y) : -h ≤ rnd (z * h) (sN x y) ∧ rnd (z * h) (sN x y) ≤ h := by
  have hn := Int.add_nonneg (sq_nn x) (sq_nn y)
  have hx := le_isq (z := x) hn (by have := sq_nn y; omega)
  have hy := le_isq (z := y) hn (by have := sq_nn x; omega)
  have hzN : -sN x y ≤ z ∧ z ≤ sN x y := by unfold sN; rcases hz with rfl | rfl | rfl <;> omega
  rcases Int.lt_or_le 0 (sN x y) with hN | hN
  · have k1 : z * h ≤ h * sN x y := by rw [Int.mul_comm h]; exact Int.mul_le_mul_of_nonneg_right hzN.2 (by omega)
    have k2 : -h * sN x y ≤ z * h := by
      have := Int.mul_le_mul_of_nonneg_right hzN.1 (show 0 ≤ h by omega)
      rw [Int.neg_mul, Int.mul_comm] at this
      rw [Int.neg_mul]
      exact this
    exact ⟨rnd_ge (x := z * h) (d := sN x y) (b := -h) hN k2, rnd_le (x := z * h) (d := sN x y) (b := h) hN k1⟩
  · have e : sN x y = 0 := by have := sN_nn x y; omega
    rw [e]
    have : rnd (z * h) 0 = 0 := by unfold rnd; simp
    omega
def nearP (d : Int) (p a : Pt) : Prop := (a.x - d ≤ p.x ∧ p.x ≤ a.x + d) ∧ a.y - d ≤ p.y ∧ p.y ≤ a.y + d
theorem disc_near (a : Pt) {h : Int} (h0 : 0 ≤ h) : ∀ p ∈ disc a.x a.y h, nearP h p a := fun p hp => by
  have key : ∀ k : Int, -65536 ≤ k → k ≤ 65536 → -h ≤ PC h k ∧ PC h k ≤ h := fun k k1 k2 => by
    unfold PC
    refine ⟨rnd_ge (by decide) ?_, rnd_le (by decide) ?_⟩
    · have := Int.mul_le_mul_of_nonneg_right k1 h0
      omega
    · have := Int.mul_le_mul_of_nonneg_right k2 h0
      omega
  have dp : ∀ u v : Int, (-65536 ≤ u ∧ u ≤ 65536) → (-65536 ≤ v ∧ v ≤ 65536) → p = dpt a.x a.y h u v → nearP h p a := fun u v hu hv e => by
    have a1 := key u hu.1 hu.2
    have a2 := key v hv.1 hv.2
    subst e
    unfold nearP dpt
    simp only
    omega
  unfold disc at hp
  simp only [List.mem_cons, List.not_mem_nil, or_false] at hp
  rcases hp with e | e | e | e | e | e | e | e | e | e | e | e | e | e | e | e <;> exact dp _ _ (by omega) (by omega) e
/-- All that a pen leaves lies near the points. -/
theorem stroke_near {q : List Pt} {h : Int} (h0 : 0 ≤ h) (c : Bool) (cap : Int) : ∀ x ∈ strokeI q c h cap, ∀ p ∈ x.2, ∃ a ∈ q, nearP (2 * h) p a := by
  have sd : ∀ a b : Pt, (-h ≤ (sdQ a b h).x ∧ (sdQ a b h).x ≤ h) ∧ -h ≤ (sdQ a b h).y ∧ (sdQ a b h).y ≤ h := fun a b =>
    ⟨step_all (b.x - a.x) (b.y - a.y) h0 _ (Or.inr (Or.inr rfl)), step_all (b.x - a.x) (b.y - a.y) h0 _ (Or.inl rfl)⟩
  have ah : ∀ a b : Pt, (-h ≤ (ahQ a b h).x ∧ (ahQ a b h).x ≤ h) ∧ -h ≤ (ahQ a b h).y ∧ (ahQ a b h).y ≤ h := fun a b =>
    ⟨step_all (b.x - a.x) (b.y - a.y) h0 _ (Or.inl rfl), step_all (b.x - a.x) (b.y - a.y) h0 _ (Or.inr (Or.inl rfl))⟩
  refine stroke_mem (P := fun x => ∀ p ∈ x.2, ∃ a ∈ q, nearP (2 * h) p a) ?_ ?_ ?_ ?_ ?_ c cap
  · intro a b ha hb p hp
    have := sd a b
    simp only [barI, barQ, List.mem_cons, List.not_mem_nil, or_false] at hp
    rcases hp with rfl | rfl | rfl | rfl
    · exact ⟨a, ha, by unfold nearP lsP; simp only; omega⟩
    · exact ⟨b, hb, by unfold nearP lsP; simp only; omega⟩
    · exact ⟨b, hb, by unfold nearP plP; simp only; omega⟩
    · exact ⟨a, ha, by unfold nearP plP; simp only; omega⟩
  · intro a ha p hp
    have := disc_near a h0 p hp
    exact ⟨a, ha, by unfold nearP at this ⊢; omega⟩
  · intro a ha p hp
    simp only [sqI, sqP, List.mem_cons, List.not_mem_nil, or_false] at hp
    refine ⟨a, ha, ?_⟩
    rcases hp with rfl | rfl | rfl | rfl <;> (unfold nearP; simp only; omega)
  · intro a b ha hb p hp
    have := sd a b
    have := ah a b
    simp only [firstI, firstQ, List.mem_cons, List.not_mem_nil, or_false] at hp
    refine ⟨a, ha, ?_⟩
    rcases hp with rfl | rfl | rfl | rfl <;> (unfold nearP; (try unfold lsP); (try unfold plP); simp only; omega)
  · intro a b ha hb p hp
    have := sd a b
    have := ah a b
    simp only [lastI, lastQ, List.mem_cons, List.not_mem_nil, or_false] at hp
    refine ⟨b, hb, ?_⟩
    rcases hp with rfl | rfl | rfl | rfl <;> (unfold nearP; (try unfold plP); (try unfold lsP); simp only; omega)

/- Package geom walked: places in room, sides. Conditions: those that each theorem names. -/
open Go Go.Proofs
set_option linter.unusedSimpArgs false
set_option linter.unusedVariables false

/-- Twice the area of three places, with its sign. -/
def cross (ax ay bx b_y cx cy : Int) : Int := (bx - ax) * (cy - ay) - (b_y - ay) * (cx - ax)
theorem cmpN_eq (x y : Int) : cmpN (x / 18446744073709551616) (x % 18446744073709551616) (y / 18446744073709551616) (y % 18446744073709551616) = sgn (x - y) := by
  unfold cmpN
  simp only [sgn_sub]
  repeat' split
  all_goals omega
theorem small_mul {a b : Int} (ha : -4294967296 ≤ a ∧ a ≤ 4294967296) (hb : -4294967296 ≤ b ∧ b ≤ 4294967296) : -18446744073709551616 ≤ a * b ∧ a * b ≤ 18446744073709551616 := by
  have key : ∀ x y : Int, 0 ≤ x → x ≤ 4294967296 → 0 ≤ y → y ≤ 4294967296 → 0 ≤ x * y ∧ x * y ≤ 18446744073709551616 := by
    intro x y h1 h2 h3 h4
    exact ⟨Int.mul_nonneg h1 h3, Int.le_trans (Int.mul_le_mul_of_nonneg_right h2 h3) (by omega)⟩
  rcases Int.le_total 0 a with h | h <;> rcases Int.le_total 0 b with h' | h'
  · have := key a b h (by omega) h' (by omega); omega
  · have := key a (-b) h (by omega) (by omega) (by omega); rw [Int.mul_neg] at this; omega
  · have := key b (-a) h' (by omega) (by omega) (by omega); rw [Int.mul_neg, Int.mul_comm] at this; omega
  · have := key (-a) (-b) (by omega) (by omega) (by omega) (by omega); rw [Int.neg_mul_neg] at this; omega

theorem v_Side (ax ay bx b_y cx cy : Int) (h1 : rm ax = true) (h2 : rm ay = true) (h3 : rm bx = true) (h4 : rm b_y = true) (h5 : rm cx = true) (h6 : rm cy = true) (m : Mem) (n : Nat) :
    callF TA 47 [.agg [I ax, I ay], .agg [I bx, I b_y], .agg [I cx, I cy]] m n = some (RI (sgn (cross ax ay bx b_y cx cy))) := by
  refine callF_of (Fn_ofK (fn := F47) rfl (by simp [F47]) ?_)
  rw [rm_iff] at h1 h2 h3 h4 h5 h6
  have w : ∀ a b : Int, (-2147483648 ≤ a ∧ a ≤ 2147483648) → (-2147483648 ≤ b ∧ b ≤ 2147483648) → IntKind.i64.wrap (a - b) = a - b := fun a b h k => wr_eq (by omega) (by omega)
  have v1 := fun m n => v_wMul (bx - ax) (cy - ay) (by omega) (by omega) (by omega) (by omega) m n
  have v2 := fun m n => v_wMul (b_y - ay) (cx - ax) (by omega) (by omega) (by omega) (by omega) m n
  try simp only [r47_0, r47_1, c47, F47, w bx ax h3 h1, w cy ay h6 h2, w b_y ay h4 h2, w cx ax h5 h1, v1, v2, v_NCmp, cmpN_eq, cross, go_sem, Int.reduceTMod, Int.reduceTDiv, Int.reduceDiv, Int.reduceMod, Int.reduceAdd, Int.reduceSub, Int.reduceMul, Int.reduceNeg, Int.reducePow, Int.reduceEq, ↓reduceIte, Nat.reduceEqDiff, Nat.reduceAdd, Nat.reduceMul, Nat.reduceLeDiff, Nat.reduceSub, Nat.reduceLT, Int.reduceToNat, Int.reduceLT, Int.reduceLE, reduceCtorEq]
  repeat' ((first | refine FK_split (fun h_ => ?_) (fun h_ => ?_) | refine GK_split (fun h_ => ?_) (fun h_ => ?_) | refine ite_both (fun h_ => ?_) (fun h_ => ?_)) <;> (try simp only [decide_eq_true_eq, decide_eq_false_iff_not, Bool.not_true, Bool.not_false, Bool.not_eq_true', Bool.not_eq_false', Bool.not_eq_eq_eq_not, Decidable.not_not] at h_) <;> (try simp only [r47_0, r47_1, c47, F47, w bx ax h3 h1, w cy ay h6 h2, w b_y ay h4 h2, w cx ax h5 h1, v1, v2, v_NCmp, cmpN_eq, cross, h_, go_sem, Int.reduceTMod, Int.reduceTDiv, Int.reduceDiv, Int.reduceMod, Int.reduceAdd, Int.reduceSub, Int.reduceMul, Int.reduceNeg, Int.reducePow, Int.reduceEq, ↓reduceIte, Nat.reduceEqDiff, Nat.reduceAdd, Nat.reduceMul, Nat.reduceLeDiff, Nat.reduceSub, Nat.reduceLT, Int.reduceToNat, Int.reduceLT, Int.reduceLE, reduceCtorEq]))

/- How often closed lines go round a place: four sides of a parallelogram, discs. Plain. Conditions: those that each theorem names. -/
open Go Go.Proofs
set_option linter.unusedVariables false

def crossP (p q s : Pt) : Int := cross p.x p.y q.x q.y s.x s.y
def edgeW (p q s : Pt) : Int := if (p.y ≤ s.y ∧ s.y < q.y) ∧ 0 < crossP p q s then 1 else if (q.y ≤ s.y ∧ s.y < p.y) ∧ crossP p q s < 0 then -1 else 0
/-- The edges into the places below i. -/
def windsTo (l : List Pt) (s : Pt) : Nat → Int
  | 0 => 0
  | i + 1 => windsTo l s i + (match l[(i + l.length - 1) % l.length]?, l[i]? with | some p, some q => edgeW p q s | _, _ => 0)
theorem pos_of_mul {x y : Int} (h : 0 < x * y) (hy : 0 < y) : 0 < x := by
  rcases Int.lt_or_le 0 x with g | g
  · exact g
  · have := Int.mul_nonpos_of_nonpos_of_nonneg g (show 0 ≤ y by omega); omega
theorem neg_of_mul {x y : Int} (h : x * y < 0) (hy : 0 < y) : x < 0 := by
  rcases Int.lt_or_le x 0 with g | g
  · exact g
  · have := Int.mul_nonneg g (show 0 ≤ y by omega); omega
theorem pos_of_mul' {x y : Int} (h : x * y < 0) (hy : y < 0) : 0 < x := by
  have : 0 < x * -y := by rw [Int.mul_neg]; omega
  exact pos_of_mul this (by omega)
theorem neg_of_mul' {x y : Int} (h : 0 < x * y) (hy : y < 0) : x < 0 := by
  have : x * -y < 0 := by rw [Int.mul_neg]; omega
  exact neg_of_mul this (by omega)
set_option maxHeartbeats 8000000 in
/-- The four sides together. -/
theorem para_wind {uy vy Y a b D : Int} (hD : 0 ≤ D) (hE : a * vy - b * uy = Y * D) :
    let e1 : Int := if (0 ≤ Y ∧ Y < uy) ∧ 0 < a then 1 else if (uy ≤ Y ∧ Y < 0) ∧ a < 0 then -1 else 0
    let e2 : Int := if (uy ≤ Y ∧ Y < uy + vy) ∧ 0 < b + D then 1 else if (uy + vy ≤ Y ∧ Y < uy) ∧ b + D < 0 then -1 else 0
    let e3 : Int := if (uy + vy ≤ Y ∧ Y < vy) ∧ 0 < D - a then 1 else if (vy ≤ Y ∧ Y < uy + vy) ∧ D - a < 0 then -1 else 0
    let e4 : Int := if (vy ≤ Y ∧ Y < 0) ∧ 0 < -b then 1 else if (0 ≤ Y ∧ Y < vy) ∧ -b < 0 then -1 else 0
    0 ≤ e1 + e2 + e3 + e4 ∧ e1 + e2 + e3 + e4 ≤ 1 := by
  have hE2 : (b + D) * uy = a * vy - D * (Y - uy) := by rw [Int.add_mul, Int.mul_sub, Int.mul_comm D Y]; omega
  have hE3 : (a - D) * vy = D * (Y - vy) + b * uy := by rw [Int.sub_mul, Int.mul_sub, Int.mul_comm D Y]; omega
  rcases Int.lt_or_le uy 0 with hu | hu <;> rcases Int.lt_or_le vy 0 with hv | hv
  · have k1 : Y < vy → Y < uy → uy + vy ≤ Y → b + D < 0 → a < D := fun h1 h2 h3 h4 => by
      have g1 := Int.mul_le_mul_of_nonneg_left (show uy ≤ Y - vy by omega) hD
      have g2 : 0 < (b + D) * uy := Int.mul_pos_of_neg_of_neg h4 hu
      rw [Int.add_mul] at g2
      have := neg_of_mul' (show 0 < (a - D) * vy by omega) hv
      omega
    have k2 : vy ≤ Y → uy ≤ Y → Y < 0 → a < 0 → b < 0 := fun h1 h2 h3 h4 => by
      have g1 : 0 < a * vy := Int.mul_pos_of_neg_of_neg h4 hv
      have g2 : Y * D ≤ 0 := Int.mul_nonpos_of_nonpos_of_nonneg (by omega) hD
      exact neg_of_mul' (show 0 < b * uy by omega) hu
    intro e1 e2 e3 e4
    simp only [e1, e2, e3, e4]
    repeat' split
    all_goals omega
  · have k1 : Y < uy + vy → uy ≤ Y → Y < 0 → a < 0 → 0 < b + D := fun h1 h2 h3 h4 => by
      have g1 : a * vy < 0 := Int.mul_neg_of_neg_of_pos h4 (by omega)
      have g2 := Int.mul_nonneg hD (show 0 ≤ Y - uy by omega)
      exact pos_of_mul' (show (b + D) * uy < 0 by omega) hu
    have k2 : uy + vy ≤ Y → 0 ≤ Y → Y < vy → 0 < b → a < D := fun h1 h2 h3 h4 => by
      have g1 : b * uy < 0 := Int.mul_neg_of_pos_of_neg h4 hu
      have g2 : D * (Y - vy) ≤ 0 := Int.mul_nonpos_of_nonneg_of_nonpos hD (by omega)
      have := neg_of_mul (show (a - D) * vy < 0 by omega) (by omega)
      omega
    intro e1 e2 e3 e4
    simp only [e1, e2, e3, e4]
    repeat' split
    all_goals omega
  · have k1 : Y < 0 → Y < uy + vy → vy ≤ Y → D < a → b < 0 := fun h1 h2 h3 h4 => by
      have g1 : (a - D) * vy < 0 := Int.mul_neg_of_pos_of_neg (by omega) hv
      have g2 : 0 ≤ D * (Y - vy) := Int.mul_nonneg hD (by omega)
      exact neg_of_mul (show b * uy < 0 by omega) (by omega)
    have k2 : 0 ≤ Y → uy + vy ≤ Y → Y < uy → b + D < 0 → 0 < a := fun h1 h2 h3 h4 => by
      have g1 : (b + D) * uy < 0 := Int.mul_neg_of_neg_of_pos h4 (by omega)
      have g2 : D * (Y - uy) ≤ 0 := Int.mul_nonpos_of_nonneg_of_nonpos hD (by omega)
      exact pos_of_mul' (show a * vy < 0 by omega) hv
    intro e1 e2 e3 e4
    simp only [e1, e2, e3, e4]
    repeat' split
    all_goals omega
  · have k1 : 0 ≤ Y → Y < uy → Y < vy → 0 < b → 0 < a := fun h1 h2 h3 h4 => by
      have g1 := Int.mul_pos h4 (show 0 < uy by omega)
      have g2 := Int.mul_nonneg h1 hD
      exact pos_of_mul (show 0 < a * vy by omega) (by omega)
    have k2 : uy ≤ Y → vy ≤ Y → Y < uy + vy → D < a → 0 < b + D := fun h1 h2 h3 h4 => by
      have g1 : 0 < (a - D) * vy := Int.mul_pos (by omega) (by omega)
      have g2 : D * (Y - vy) ≤ D * uy := Int.mul_le_mul_of_nonneg_left (by omega) hD
      have g3 : 0 < (b + D) * uy := by rw [Int.add_mul]; omega
      exact pos_of_mul g3 (by omega)
    intro e1 e2 e3 e4
    simp only [e1, e2, e3, e4]
    repeat' split
    all_goals omega
theorem windsTo_four (p q r t s : Pt) : windsTo [p, q, r, t] s 4 = edgeW t p s + edgeW p q s + edgeW q r s + edgeW r t s := by
  simp [windsTo]
set_option maxHeartbeats 4000000 in
/-- A parallelogram to the left goes round no place twice, nor the other way. -/
theorem para_winds {p q r t : Pt} (hx : r.x - q.x = t.x - p.x) (hy : r.y - q.y = t.y - p.y) (hD : 0 ≤ crossP p q t) (s : Pt) : 0 ≤ windsTo [p, q, r, t] s 4 ∧ windsTo [p, q, r, t] s 4 ≤ 1 := by
  have key := para_wind (uy := q.y - p.y) (vy := t.y - p.y) (Y := s.y - p.y) (a := crossP p q s) (b := crossP p t s) (D := crossP p q t) hD (by unfold crossP cross; grind)
  have c2 : crossP q r s = crossP p t s + crossP p q t := by
    unfold crossP cross
    rw [hx, hy]
    grind
  have c3 : crossP r t s = crossP p q t - crossP p q s := by
    have ex : r.x = q.x + (t.x - p.x) := by omega
    have ey : r.y = q.y + (t.y - p.y) := by omega
    unfold crossP cross
    rw [ex, ey]
    grind
  have c4 : crossP t p s = -crossP p t s := by
    unfold crossP cross
    grind
  rw [windsTo_four]
  unfold edgeW
  rw [c2, c3, c4]
  simp only at key
  generalize crossP p q s = a at *
  generalize crossP p t s = b at *
  generalize crossP p q t = D at *
  have s1 : ∀ P : Prop, ∀ [Decidable P], True := fun _ _ => trivial
  have f1 : (if (p.y ≤ s.y ∧ s.y < q.y) ∧ 0 < a then (1 : Int) else if (q.y ≤ s.y ∧ s.y < p.y) ∧ a < 0 then -1 else 0) = (if (0 ≤ s.y - p.y ∧ s.y - p.y < q.y - p.y) ∧ 0 < a then 1 else if (q.y - p.y ≤ s.y - p.y ∧ s.y - p.y < 0) ∧ a < 0 then -1 else 0) := by
    repeat' split
    all_goals omega
  have f2 : (if (q.y ≤ s.y ∧ s.y < r.y) ∧ 0 < b + D then (1 : Int) else if (r.y ≤ s.y ∧ s.y < q.y) ∧ b + D < 0 then -1 else 0) = (if (q.y - p.y ≤ s.y - p.y ∧ s.y - p.y < q.y - p.y + (t.y - p.y)) ∧ 0 < b + D then 1 else if (q.y - p.y + (t.y - p.y) ≤ s.y - p.y ∧ s.y - p.y < q.y - p.y) ∧ b + D < 0 then -1 else 0) := by
    repeat' split
    all_goals omega
  have f3 : (if (r.y ≤ s.y ∧ s.y < t.y) ∧ 0 < D - a then (1 : Int) else if (t.y ≤ s.y ∧ s.y < r.y) ∧ D - a < 0 then -1 else 0) = (if (q.y - p.y + (t.y - p.y) ≤ s.y - p.y ∧ s.y - p.y < t.y - p.y) ∧ 0 < D - a then 1 else if (t.y - p.y ≤ s.y - p.y ∧ s.y - p.y < q.y - p.y + (t.y - p.y)) ∧ D - a < 0 then -1 else 0) := by
    repeat' split
    all_goals omega
  have f4 : (if (t.y ≤ s.y ∧ s.y < p.y) ∧ 0 < -b then (1 : Int) else if (p.y ≤ s.y ∧ s.y < t.y) ∧ -b < 0 then -1 else 0) = (if (t.y - p.y ≤ s.y - p.y ∧ s.y - p.y < 0) ∧ 0 < -b then 1 else if (0 ≤ s.y - p.y ∧ s.y - p.y < t.y - p.y) ∧ -b < 0 then -1 else 0) := by
    repeat' split
    all_goals omega
  rw [f1, f2, f3, f4]
  omega

/- Discs, and all polygons of a pen, go round a place once or not. Plain. Conditions: those that each theorem names. -/
open Go Go.Proofs
set_option linter.unusedVariables false

theorem cross_two (p q s : Pt) : crossP p q s = (q.y - s.y) * (p.x - s.x) + (s.y - p.y) * (q.x - s.x) := by
  unfold crossP cross
  grind
/-- A chain of places. -/
def chainW (s : Pt) : List Pt → Int
  | [] => 0
  | [_] => 0
  | p :: q :: l => edgeW p q s + chainW s (q :: l)
/-- Upward, all to the right of a line. -/
theorem chain_up {cx : Int} (s : Pt) : ∀ (l : List Pt) (p : Pt), (∀ a ∈ p :: l, cx ≤ a.x) → (p :: l).Pairwise (fun a b => a.y ≤ b.y) → (0 ≤ chainW s (p :: l) ∧ chainW s (p :: l) ≤ 1) ∧ (s.y < p.y → chainW s (p :: l) = 0) ∧ ∀ t, (p :: l).getLast? = some t → p.y ≤ s.y → s.y < t.y → s.x < cx → chainW s (p :: l) = 1
  | [], p, _, _ => ⟨by simp [chainW], fun _ => rfl, fun t ht h1 h2 => by simp at ht; subst ht; omega⟩
  | q :: l, p, hx, hy => by
    obtain ⟨⟨i1, i2⟩, i3, i4⟩ := chain_up s l q (fun a ha => hx a (List.mem_cons_of_mem _ ha)) (List.pairwise_cons.1 hy).2
    have hpq : p.y ≤ q.y := (List.pairwise_cons.1 hy).1 q (List.mem_cons_self ..)
    have px := hx p (List.mem_cons_self ..)
    have qx := hx q (List.mem_cons_of_mem _ (List.mem_cons_self ..))
    have e : chainW s (p :: q :: l) = edgeW p q s + chainW s (q :: l) := rfl
    have hc : (p.y ≤ s.y ∧ s.y < q.y) → s.x < cx → 0 < crossP p q s := fun h1 h2 => by
      rw [cross_two]
      have g1 : 0 < (q.y - s.y) * (p.x - s.x) := Int.mul_pos (by omega) (by omega)
      have g2 : 0 ≤ (s.y - p.y) * (q.x - s.x) := Int.mul_nonneg (by omega) (by omega)
      omega
    rw [e]
    unfold edgeW
    generalize crossP p q s = c at *
    generalize chainW s (q :: l) = w at *
    refine ⟨?_, ?_, ?_⟩
    · split
      · have := i3 (by omega); omega
      · split
        · omega
        · omega
    · intro h
      rw [i3 (by omega), if_neg (by omega), if_neg (by omega)]
      rfl
    · intro t ht h1 h2 h3
      rcases Int.lt_or_le s.y q.y with h | h
      · rw [i3 h, if_pos ⟨⟨h1, h⟩, hc ⟨h1, h⟩ h3⟩]
        rfl
      · rw [if_neg (by omega), if_neg (by omega), i4 t (by rw [← ht]; simp) h h2 h3]
        rfl
/-- Downward, all to the left of a line. -/
theorem chain_down {cx : Int} (s : Pt) : ∀ (l : List Pt) (p : Pt), (∀ a ∈ p :: l, a.x ≤ cx) → (p :: l).Pairwise (fun a b => b.y ≤ a.y) → (-1 ≤ chainW s (p :: l) ∧ chainW s (p :: l) ≤ 0) ∧ (p.y ≤ s.y → chainW s (p :: l) = 0) ∧ (chainW s (p :: l) < 0 → s.x < cx ∧ s.y < p.y ∧ ∀ t, (p :: l).getLast? = some t → t.y ≤ s.y)
  | [], p, _, _ => ⟨by simp [chainW], fun _ => rfl, fun h => by simp [chainW] at h⟩
  | q :: l, p, hx, hy => by
    obtain ⟨⟨i1, i2⟩, i3, i4⟩ := chain_down s l q (fun a ha => hx a (List.mem_cons_of_mem _ ha)) (List.pairwise_cons.1 hy).2
    have hpq : q.y ≤ p.y := (List.pairwise_cons.1 hy).1 q (List.mem_cons_self ..)
    have px := hx p (List.mem_cons_self ..)
    have qx := hx q (List.mem_cons_of_mem _ (List.mem_cons_self ..))
    have e : chainW s (p :: q :: l) = edgeW p q s + chainW s (q :: l) := rfl
    have hc : (q.y ≤ s.y ∧ s.y < p.y) → crossP p q s < 0 → s.x < cx := fun h1 h2 => by
      rw [cross_two] at h2
      rcases Int.lt_or_le s.x cx with h | h
      · exact h
      · exfalso
        have g1 : 0 ≤ (q.y - s.y) * (p.x - s.x) := Int.mul_nonneg_of_nonpos_of_nonpos (by omega) (by omega)
        have g2 : 0 ≤ (s.y - p.y) * (q.x - s.x) := Int.mul_nonneg_of_nonpos_of_nonpos (by omega) (by omega)
        omega
    have hlast : ∀ t, (p :: q :: l).getLast? = some t → t.y ≤ q.y := fun t ht => by
      have : t ∈ q :: l := by
        rw [List.getLast?_cons_cons] at ht
        exact List.mem_of_getLast? ht
      rcases List.mem_cons.1 this with rfl | h
      · exact Int.le_refl _
      · exact (List.pairwise_cons.1 (List.pairwise_cons.1 hy).2).1 t h
    rw [e]
    unfold edgeW
    generalize crossP p q s = c at *
    generalize chainW s (q :: l) = w at *
    refine ⟨?_, ?_, ?_⟩
    · split
      · omega
      · split
        · have := i3 (by omega); omega
        · omega
    · intro h
      rw [i3 (by omega), if_neg (by omega), if_neg (by omega)]
      rfl
    · intro h
      by_cases g : (q.y ≤ s.y ∧ s.y < p.y) ∧ c < 0
      · exact ⟨hc g.1 g.2, g.1.2, fun t ht => by have := hlast t ht; omega⟩
      · rw [if_neg (by omega), if_neg g] at h
        obtain ⟨j1, j2, j3⟩ := i4 (by omega)
        exact ⟨j1, by omega, fun t ht => j3 t (by rw [← ht, List.getLast?_cons_cons])⟩
theorem windsTo_sixteen (a b c d e f g h i j k l m n o p s : Pt) : windsTo [a, b, c, d, e, f, g, h, i, j, k, l, m, n, o, p] s 16 = chainW s [m, n, o, p, a, b, c, d, e] + chainW s [e, f, g, h, i, j, k, l, m] := by
  simp [windsTo, chainW]
  omega
theorem PC_mono {h a b : Int} (h0 : 0 ≤ h) (hab : a ≤ b) : PC h a ≤ PC h b := by
  unfold PC rnd
  have := Int.mul_le_mul_of_nonneg_right hab h0
  exact Int.ediv_le_ediv (by decide) (by omega)
theorem disc_winds (c : Pt) {h : Int} (h0 : 0 ≤ h) (s : Pt) : 0 ≤ windsTo (disc c.x c.y h) s 16 ∧ windsTo (disc c.x c.y h) s 16 ≤ 1 := by
  have m1 : PC h (-65536) ≤ PC h (-60547) := PC_mono h0 (by decide)
  have m2 : PC h (-60547) ≤ PC h (-46341) := PC_mono h0 (by decide)
  have m3 : PC h (-46341) ≤ PC h (-25080) := PC_mono h0 (by decide)
  have m4 : PC h (-25080) ≤ PC h 0 := PC_mono h0 (by decide)
  have m5 : PC h 0 ≤ PC h 25080 := PC_mono h0 (by decide)
  have m6 : PC h 25080 ≤ PC h 46341 := PC_mono h0 (by decide)
  have m7 : PC h 46341 ≤ PC h 60547 := PC_mono h0 (by decide)
  have m8 : PC h 60547 ≤ PC h 65536 := PC_mono h0 (by decide)
  have z : PC h 0 = 0 := by unfold PC rnd; simp
  unfold disc
  rw [windsTo_sixteen]
  obtain ⟨⟨u1, u2⟩, u3, u4⟩ := chain_up (cx := c.x) s [dpt c.x c.y h 25080 (-60547), dpt c.x c.y h 46341 (-46341), dpt c.x c.y h 60547 (-25080), dpt c.x c.y h 65536 0, dpt c.x c.y h 60547 25080, dpt c.x c.y h 46341 46341, dpt c.x c.y h 25080 60547, dpt c.x c.y h 0 65536] (dpt c.x c.y h 0 (-65536)) (by simp [dpt]; omega) (by simp [dpt]; omega)
  obtain ⟨⟨d1, d2⟩, d3, d4⟩ := chain_down (cx := c.x) s [dpt c.x c.y h (-25080) 60547, dpt c.x c.y h (-46341) 46341, dpt c.x c.y h (-60547) 25080, dpt c.x c.y h (-65536) 0, dpt c.x c.y h (-60547) (-25080), dpt c.x c.y h (-46341) (-46341), dpt c.x c.y h (-25080) (-60547), dpt c.x c.y h 0 (-65536)] (dpt c.x c.y h 0 65536) (by simp [dpt]; omega) (by simp [dpt]; omega)
  have u5 := u4 _ rfl
  generalize chainW s [dpt c.x c.y h 0 (-65536), dpt c.x c.y h 25080 (-60547), dpt c.x c.y h 46341 (-46341), dpt c.x c.y h 60547 (-25080), dpt c.x c.y h 65536 0, dpt c.x c.y h 60547 25080, dpt c.x c.y h 46341 46341, dpt c.x c.y h 25080 60547, dpt c.x c.y h 0 65536] = u at *
  generalize chainW s _ = d at *
  rcases Int.lt_or_le d 0 with g | g
  · obtain ⟨g1, g2, g3⟩ := d4 g
    have := u5 (g3 _ rfl) g2 g1
    omega
  · omega
theorem rnd_sign {z h d : Int} (h0 : 0 ≤ h) (hd : 0 ≤ d) : (0 ≤ z → 0 ≤ rnd (z * h) d) ∧ (z ≤ 0 → rnd (z * h) d ≤ 0) := by
  rcases Int.lt_or_le 0 d with g | g
  · refine ⟨fun hz => rnd_ge g ?_, fun hz => rnd_le g ?_⟩
    · rw [Int.zero_mul]; exact Int.mul_nonneg hz h0
    · rw [Int.zero_mul]; exact Int.mul_nonpos_of_nonpos_of_nonneg hz h0
  · have e : d = 0 := by omega
    subst e
    have : rnd (z * h) 0 = 0 := by unfold rnd; simp
    rw [this]
    exact ⟨fun _ => Int.le_refl _, fun _ => Int.le_refl _⟩
theorem sign_mul {z w v : Int} (h1 : 0 ≤ z → 0 ≤ w) (h2 : z ≤ 0 → w ≤ 0) (h3 : 0 ≤ z → 0 ≤ v) (h4 : z ≤ 0 → v ≤ 0) : 0 ≤ w * v := by
  rcases Int.le_total 0 z with g | g
  · exact Int.mul_nonneg (h1 g) (h3 g)
  · exact Int.mul_nonneg_of_nonpos_of_nonpos (h2 g) (h4 g)
/-- All that a pen leaves goes round no place twice, nor the other way. -/
theorem stroke_winds {q : List Pt} {h : Int} (h0 : 0 ≤ h) (c : Bool) (cap : Int) (s : Pt) : ∀ x ∈ strokeI q c h cap, 0 ≤ windsTo x.2 s x.2.length ∧ windsTo x.2 s x.2.length ≤ 1 := by
  have bar : ∀ x y : Int, 0 ≤ x * rnd (x * h) (sN x y) - y * rnd (-y * h) (sN x y) := fun x y => by
    have a1 := rnd_sign (z := x) h0 (sN_nn x y)
    have a2 := rnd_sign (z := -y) h0 (sN_nn x y)
    have b1 : 0 ≤ x * rnd (x * h) (sN x y) := sign_mul (z := x) id id a1.1 a1.2
    have b2 : 0 ≤ (-y) * rnd (-y * h) (sN x y) := sign_mul (z := -y) id id a2.1 a2.2
    have e : (-y) * rnd (-y * h) (sN x y) = -(y * rnd (-y * h) (sN x y)) := Int.neg_mul _ _
    omega
  have cap' : ∀ x y : Int, 0 ≤ rnd (x * h) (sN x y) * rnd (x * h) (sN x y) - rnd (y * h) (sN x y) * rnd (-y * h) (sN x y) := fun x y => by
    have a1 := rnd_sign (z := y) h0 (sN_nn x y)
    have a2 := rnd_sign (z := -y) h0 (sN_nn x y)
    have b1 := sq_nn (rnd (x * h) (sN x y))
    have b2 : 0 ≤ rnd (y * h) (sN x y) * -rnd (-y * h) (sN x y) := sign_mul (z := y) a1.1 a1.2 (fun g => by have := a2.2 (by omega); omega) (fun g => by have := a2.1 (by omega); omega)
    rw [Int.mul_neg] at b2
    omega
  refine stroke_mem (P := fun x => 0 ≤ windsTo x.2 s x.2.length ∧ windsTo x.2 s x.2.length ≤ 1) ?_ ?_ ?_ ?_ ?_ c cap
  · intro a b _ _
    refine para_winds ?_ ?_ ?_ s
    · simp only [lsP, plP]; omega
    · simp only [lsP, plP]; omega
    · have := bar (b.x - a.x) (b.y - a.y)
      show 0 ≤ cross _ _ _ _ _ _
      have e : cross (lsP a (sdQ a b h)).x (lsP a (sdQ a b h)).y (lsP b (sdQ a b h)).x (lsP b (sdQ a b h)).y (plP a (sdQ a b h)).x (plP a (sdQ a b h)).y = 2 * ((b.x - a.x) * (sdQ a b h).y - (b.y - a.y) * (sdQ a b h).x) := by
        unfold cross lsP plP
        grind
      rw [e]
      exact Int.mul_nonneg (by decide) this
  · intro a _
    exact disc_winds a h0 s
  · intro a _
    refine para_winds ?_ ?_ ?_ s
    · first | (simp only; omega) | simp only
    · first | (simp only; omega) | simp only
    · show 0 ≤ cross _ _ _ _ _ _
      have e : cross (a.x - h) (a.y - h) (a.x + h) (a.y - h) (a.x - h) (a.y + h) = 4 * (h * h) := by
        unfold cross
        grind
      rw [e]
      exact Int.mul_nonneg (by decide) (sq_nn h)
  · intro a b _ _
    refine para_winds ?_ ?_ ?_ s
    · simp only [lsP, plP]; omega
    · simp only [lsP, plP]; omega
    · have := cap' (b.x - a.x) (b.y - a.y)
      show 0 ≤ cross _ _ _ _ _ _
      have e : cross (lsP (lsP a (sdQ a b h)) (ahQ a b h)).x (lsP (lsP a (sdQ a b h)) (ahQ a b h)).y (lsP a (sdQ a b h)).x (lsP a (sdQ a b h)).y (lsP (plP a (sdQ a b h)) (ahQ a b h)).x (lsP (plP a (sdQ a b h)) (ahQ a b h)).y = 2 * ((ahQ a b h).x * (sdQ a b h).y - (ahQ a b h).y * (sdQ a b h).x) := by
        unfold cross lsP plP
        grind
      rw [e]
      exact Int.mul_nonneg (by decide) this
  · intro a b _ _
    refine para_winds ?_ ?_ ?_ s
    · simp only [lsP, plP]; omega
    · simp only [lsP, plP]; omega
    · have := cap' (b.x - a.x) (b.y - a.y)
      show 0 ≤ cross _ _ _ _ _ _
      have e : cross (lsP b (sdQ a b h)).x (lsP b (sdQ a b h)).y (plP (lsP b (sdQ a b h)) (ahQ a b h)).x (plP (lsP b (sdQ a b h)) (ahQ a b h)).y (plP b (sdQ a b h)).x (plP b (sdQ a b h)).y = 2 * ((ahQ a b h).x * (sdQ a b h).y - (ahQ a b h).y * (sdQ a b h).x) := by
        unfold cross lsP plP
        grind
      rw [e]
      exact Int.mul_nonneg (by decide) this

/- Points told twice; bars of any points; near. Conditions: those that each theorem names. -/
open Go Go.Proofs
set_option linter.unusedSimpArgs false
set_option linter.unusedVariables false

/-- Records more, in a block of its own. -/
theorem K_pushL {T : Nat → Option SFun} {α : Type} {enc : α → List Cell} {sz : Nat} (hsz : ∀ x, (enc x).length = sz) (hpos : 0 < sz) {base n0 n : Nat} {m0 m : Mem} {r0 : Reg} {l ps : List α} {j by' k' : Nat} {o : Bool} {d : Option Nat} {os : List SOper} {e : Nat → Reg} {k : Kt}
    (ho : OL enc sz base m0 n0 r0 l) (hk : ps.length = k') (hk0 : 0 < k') (hn : n0 ≤ n) (hm : ∀ id, base ≤ id → id < n0 → m id = m0 id) (hj : m j = some ⟨ps.flatMap enc, o⟩) (hsm : l.length + k' ≤ 4294967296) (hbase : base ≤ n)
    (next : ∀ c m', OL enc sz base m' (n + 1) (.one c) (l ++ ps) → (∀ id, id < n → sid r0 ≠ some id → m' id = m id) → RK T os (putE e d (.one c)) m' (n + 1) k) :
    ThenK T d os e k (evApp m n sz by' r0 (.one (.sl j 0 k' (some k') sz))) := by
  subst hk
  have hp := flatMap_len enc sz hsz ps
  have hx : newsOf m sz (.one (.sl j 0 ps.length (some ps.length) sz)) = some (ps.length, ps.flatMap enc) := by
    simp only [newsOf, if_true]
    rw [rd_of hj]
    unfold rdB
    rw [if_pos (by rw [hp]; omega), List.drop_zero, ← hp, List.take_length]
    rfl
  rcases ho with ⟨rfl, rfl⟩ | ⟨id, rfl, h2, h3, h4⟩
  · simp only [evApp, hx]
    simp only [List.length_nil] at hsm
    rw [if_neg (by omega), if_pos (by omega)]
    refine next _ _ (Or.inr ⟨n, rfl, hbase, by omega, ?_⟩) (fun id hid _ => upd_ne _ _ (by omega))
    rw [upd_same]
    simp
  · have h5 : m id = some ⟨l.flatMap enc, true⟩ := by rw [hm id h2 h3]; exact h4
    have hl := flatMap_len enc sz hsz l
    have h6 : rd m id 0 (l.length * sz) = some (l.flatMap enc) := by
      rw [rd_of h5]
      unfold rdB
      rw [if_pos (by rw [hl]; omega), List.drop_zero, ← hl, List.take_length]
    simp only [evApp, hx, if_true, h5, h6, Option.map_some, true_and, if_pos hsm]
    refine next _ _ (Or.inr ⟨n, by simp, hbase, by omega, ?_⟩) (fun i hi hs => ?_)
    · rw [upd_same]; simp
    · rw [upd_ne _ _ (by omega), upd_ne _ _ (fun e => hs (by rw [e]; rfl))]
/-- Points told twice. -/
def twL : List Pt → List Pt
  | [] => []
  | p :: l => p :: p :: twL l
theorem twL_append (l l' : List Pt) : twL (l ++ l') = twL l ++ twL l' := by
  induction l with
  | nil => rfl
  | cons p l ih => simp [twL, ih]
theorem twL_len (l : List Pt) : (twL l).length = 2 * l.length := by
  induction l with
  | nil => rfl
  | cons p l ih => simp only [twL, List.length_cons, ih]; omega
theorem twL_all (l : List Pt) : (twL l).all inP = l.all inP := by
  induction l with
  | nil => rfl
  | cons p l ih => simp only [twL, List.all_cons, ih]; cases inP p <;> rfl
theorem twL_at (l : List Pt) : ∀ i, (twL l)[2 * i]? = l[i]? ∧ (twL l)[2 * i + 1]? = l[i]? := by
  induction l with
  | nil => intro i; simp [twL]
  | cons p l ih =>
    intro i
    cases i with
    | zero => simp [twL]
    | succ i =>
      rw [show 2 * (i + 1) = 2 * i + 1 + 1 by omega]
      simp only [twL, List.getElem?_cons_succ]
      exact ih i
theorem pln_tw (l : List Pt) : ∀ i, i ≤ l.length → pln (twL l) (2 * i) = pln l i
  | 0, _ => rfl
  | i + 1, hi => by
    have hp : l[i]? = some (l[i]'(by omega)) := List.getElem?_eq_getElem (by omega)
    generalize (l[i]'(by omega)) = p at hp
    obtain ⟨a1, a2⟩ := twL_at l i
    rw [show 2 * (i + 1) = 2 * i + 1 + 1 by omega, pln_skip (p := p) (a2.trans hp) (by omega) (by rw [show 2 * i + 1 - 1 = 2 * i by omega]; exact a1.trans hp)]
    by_cases h : i = 0 ∨ l[i - 1]? ≠ some p
    · rw [pln_keep hp h, pln_keep (p := p) (a1.trans hp), pln_tw l i (by omega)]
      by_cases h0 : i = 0
      · exact Or.inl (by omega)
      · rcases h with h | h
        · exact absurd h h0
        · refine Or.inr ?_
          have := (twL_at l (i - 1)).2
          rw [show 2 * (i - 1) + 1 = 2 * i - 1 by omega] at this
          rw [this]; exact h
    · have h0 : i ≠ 0 := fun e => h (Or.inl e)
      have h1 : l[i - 1]? = some p := Classical.byContradiction fun e => h (Or.inr e)
      have := (twL_at l (i - 1)).2
      rw [show 2 * (i - 1) + 1 = 2 * i - 1 by omega] at this
      rw [pln_skip hp h0 h1, pln_skip (p := p) (a1.trans hp) (by omega) (this.trans h1), pln_tw l i (by omega)]
theorem plain_tw (l : List Pt) (c : Bool) : plainL (twL l) c = plainL l c := by
  unfold plainL
  rw [twL_len, pln_tw l l.length (Nat.le_refl _)]
/-- What the pen's errors are. -/
def kkOf (its : List (Bool × List Pt)) (good : Bool) : Int := if good = true then (if its.all (·.1) = true then 0 else 10) else 30
def lsOf (its : List (Bool × List Pt)) (good : Bool) : List (List Pt) := if good = true then (if its.all (·.1) = true then its.map (·.2) else []) else []
theorem StrokeQ.uni {l : List Pt} {its : List (Bool × List Pt)} {good : Bool} {n : Nat} {r' : Reg} {m' : Mem} {n' : Nat} (h : StrokeQ l its good n r' m' n') : ∃ x, r' = .tup [x, RI (kkOf its good)] ∧ ∃ pid, n ≤ pid ∧ OPs pid pid pid m' n' x (lsOf its good) := by
  obtain ⟨x, k, rfl, h1, h2, h3⟩ := h
  unfold kkOf lsOf
  cases good
  · obtain ⟨rfl, rfl⟩ := h1 rfl
    exact ⟨_, rfl, n, Nat.le_refl _, OPs.nil⟩
  · cases ha : its.all (·.1)
    · obtain ⟨rfl, rfl⟩ := h2 rfl ha
      exact ⟨_, rfl, n, Nat.le_refl _, OPs.nil⟩
    · obtain ⟨rfl, pid, hp, hO⟩ := h3 rfl ha
      exact ⟨_, rfl, pid, hp, hO⟩
theorem lsOf_len (its : List (Bool × List Pt)) (good : Bool) : (lsOf its good).length ≤ its.length := by
  unfold lsOf
  split
  · split
    · simp
    · simp
  · simp
theorem lsOf_l16 {its : List (Bool × List Pt)} (h : ∀ x ∈ its, x.2.length < 4294967296) (good : Bool) : ∀ l ∈ lsOf its good, l.length < 4294967296 := by
  unfold lsOf
  intro l hl
  split at hl
  · split at hl
    · obtain ⟨z, hz, rfl⟩ := List.mem_map.1 hl
      exact h z hz
    · cases hl
  · cases hl
/-- A bar of any points. -/
def BarAny (a b : Pt) (h : Int) (n : Nat) (r' : Reg) (m' : Mem) (n' : Nat) : Prop := ∃ x k, r' = .tup [.one x, RI k] ∧
    (k = 0 → (inP a = true ∧ inP b = true ∧ a ≠ b ∧ 1 ≤ h ∧ h ≤ 32768 ∧ longQ a b = false ∧ (barQ a b h).all inP = true) ∧ RPt m' n' (.one x) (barQ a b h) ∧ ∀ id, sid (.one x) = some id → n ≤ id)
theorem w_BarAny (a b : Pt) (h : Int) (m : Mem) (n : Nat) : Fn TA 19 [a.r, b.r, RI h] m n (BarAny a b h n) := by
  by_cases g : (1 ≤ h ∧ h ≤ 32768) ∧ inP a = true ∧ inP b = true ∧ a ≠ b
  · obtain ⟨⟨h1, h2⟩, ha, hb, hab⟩ := g
    refine (w_Bar ha hb hab h1 h2 m n).mono ?_
    rintro r m' n' ⟨x, k, rfl, hk, hq⟩
    refine ⟨x, k, rfl, fun h0 => ?_⟩
    cases ho : (!longQ a b && (barQ a b h).all inP)
    · rw [ho] at hk; simp at hk; omega
    · have ho2 := ho
      rw [Bool.and_eq_true, Bool.not_eq_true'] at ho2
      exact ⟨⟨ha, hb, hab, h1, h2, ho2.1, ho2.2⟩, hq ho⟩
  · refine Fn_ofK (fn := F19) rfl (by simp [F19]) ?_
    have bad : ∀ m' n', BarAny a b h n (.tup [rnil, RI 30]) m' n' := fun m' n' => ⟨_, 30, rfl, fun h => absurd h (by decide)⟩
    have va := v_PIn a.x a.y
    have vb := v_PIn b.x b.y
    cases c1 : (decide (1 ≤ h) && decide (h ≤ 32768))
    · skip
      try simp only [r19_0, r19_1, r19_2, r19_3, r19_4, r19_5, r19_6, c19, F19, v_right, c1, go_sem, Int.reduceTMod, Int.reduceTDiv, Int.reduceDiv, Int.reduceMod, Int.reduceAdd, Int.reduceSub, Int.reduceMul, Int.reduceNeg, Int.reducePow, Int.reduceEq, ↓reduceIte, Nat.reduceEqDiff, Nat.reduceAdd, Nat.reduceMul, Nat.reduceLeDiff, Nat.reduceSub, Nat.reduceLT, Int.reduceToNat, Int.reduceLT, Int.reduceLE, reduceCtorEq]
      repeat' ((first | refine FK_split (fun h_ => ?_) (fun h_ => ?_) | refine GK_split (fun h_ => ?_) (fun h_ => ?_) | refine ite_both (fun h_ => ?_) (fun h_ => ?_)) <;> (try simp only [decide_eq_true_eq, decide_eq_false_iff_not, Bool.not_true, Bool.not_false, Bool.not_eq_true', Bool.not_eq_false', Bool.not_eq_eq_eq_not, Decidable.not_not] at h_) <;> (try simp only [r19_0, r19_1, r19_2, r19_3, r19_4, r19_5, r19_6, c19, F19, v_right, c1, h_, go_sem, Int.reduceTMod, Int.reduceTDiv, Int.reduceDiv, Int.reduceMod, Int.reduceAdd, Int.reduceSub, Int.reduceMul, Int.reduceNeg, Int.reducePow, Int.reduceEq, ↓reduceIte, Nat.reduceEqDiff, Nat.reduceAdd, Nat.reduceMul, Nat.reduceLeDiff, Nat.reduceSub, Nat.reduceLT, Int.reduceToNat, Int.reduceLT, Int.reduceLE, reduceCtorEq]))
      exact bad _ _
    · have d1 : 1 ≤ h ∧ h ≤ 32768 := by simpa using c1
      cases c2 : inP ⟨a.x, a.y⟩
      · skip
        try simp only [r19_0, r19_1, r19_2, r19_3, r19_4, r19_5, r19_6, c19, F19, v_right, c1, va, c2, go_sem, Int.reduceTMod, Int.reduceTDiv, Int.reduceDiv, Int.reduceMod, Int.reduceAdd, Int.reduceSub, Int.reduceMul, Int.reduceNeg, Int.reducePow, Int.reduceEq, ↓reduceIte, Nat.reduceEqDiff, Nat.reduceAdd, Nat.reduceMul, Nat.reduceLeDiff, Nat.reduceSub, Nat.reduceLT, Int.reduceToNat, Int.reduceLT, Int.reduceLE, reduceCtorEq]
        repeat' ((first | refine FK_split (fun h_ => ?_) (fun h_ => ?_) | refine GK_split (fun h_ => ?_) (fun h_ => ?_) | refine ite_both (fun h_ => ?_) (fun h_ => ?_)) <;> (try simp only [decide_eq_true_eq, decide_eq_false_iff_not, Bool.not_true, Bool.not_false, Bool.not_eq_true', Bool.not_eq_false', Bool.not_eq_eq_eq_not, Decidable.not_not] at h_) <;> (try simp only [r19_0, r19_1, r19_2, r19_3, r19_4, r19_5, r19_6, c19, F19, v_right, c1, va, c2, h_, go_sem, Int.reduceTMod, Int.reduceTDiv, Int.reduceDiv, Int.reduceMod, Int.reduceAdd, Int.reduceSub, Int.reduceMul, Int.reduceNeg, Int.reducePow, Int.reduceEq, ↓reduceIte, Nat.reduceEqDiff, Nat.reduceAdd, Nat.reduceMul, Nat.reduceLeDiff, Nat.reduceSub, Nat.reduceLT, Int.reduceToNat, Int.reduceLT, Int.reduceLE, reduceCtorEq]))
        exact bad _ _
      · cases c3 : inP ⟨b.x, b.y⟩
        · skip
          try simp only [r19_0, r19_1, r19_2, r19_3, r19_4, r19_5, r19_6, c19, F19, v_right, c1, va, c2, vb, c3, go_sem, Int.reduceTMod, Int.reduceTDiv, Int.reduceDiv, Int.reduceMod, Int.reduceAdd, Int.reduceSub, Int.reduceMul, Int.reduceNeg, Int.reducePow, Int.reduceEq, ↓reduceIte, Nat.reduceEqDiff, Nat.reduceAdd, Nat.reduceMul, Nat.reduceLeDiff, Nat.reduceSub, Nat.reduceLT, Int.reduceToNat, Int.reduceLT, Int.reduceLE, reduceCtorEq]
          repeat' ((first | refine FK_split (fun h_ => ?_) (fun h_ => ?_) | refine GK_split (fun h_ => ?_) (fun h_ => ?_) | refine ite_both (fun h_ => ?_) (fun h_ => ?_)) <;> (try simp only [decide_eq_true_eq, decide_eq_false_iff_not, Bool.not_true, Bool.not_false, Bool.not_eq_true', Bool.not_eq_false', Bool.not_eq_eq_eq_not, Decidable.not_not] at h_) <;> (try simp only [r19_0, r19_1, r19_2, r19_3, r19_4, r19_5, r19_6, c19, F19, v_right, c1, va, c2, vb, c3, h_, go_sem, Int.reduceTMod, Int.reduceTDiv, Int.reduceDiv, Int.reduceMod, Int.reduceAdd, Int.reduceSub, Int.reduceMul, Int.reduceNeg, Int.reducePow, Int.reduceEq, ↓reduceIte, Nat.reduceEqDiff, Nat.reduceAdd, Nat.reduceMul, Nat.reduceLeDiff, Nat.reduceSub, Nat.reduceLT, Int.reduceToNat, Int.reduceLT, Int.reduceLE, reduceCtorEq]))
          exact bad _ _
        · have hab : a = b := Classical.byContradiction fun e => g ⟨d1, c2, c3, e⟩
          have he := pt_eb hab
          try simp only [r19_0, r19_1, r19_2, r19_3, r19_4, r19_5, r19_6, c19, F19, v_right, c1, va, c2, vb, c3, he, go_sem, Int.reduceTMod, Int.reduceTDiv, Int.reduceDiv, Int.reduceMod, Int.reduceAdd, Int.reduceSub, Int.reduceMul, Int.reduceNeg, Int.reducePow, Int.reduceEq, ↓reduceIte, Nat.reduceEqDiff, Nat.reduceAdd, Nat.reduceMul, Nat.reduceLeDiff, Nat.reduceSub, Nat.reduceLT, Int.reduceToNat, Int.reduceLT, Int.reduceLE, reduceCtorEq]
          repeat' ((first | refine FK_split (fun h_ => ?_) (fun h_ => ?_) | refine GK_split (fun h_ => ?_) (fun h_ => ?_) | refine ite_both (fun h_ => ?_) (fun h_ => ?_)) <;> (try simp only [decide_eq_true_eq, decide_eq_false_iff_not, Bool.not_true, Bool.not_false, Bool.not_eq_true', Bool.not_eq_false', Bool.not_eq_eq_eq_not, Decidable.not_not] at h_) <;> (try simp only [r19_0, r19_1, r19_2, r19_3, r19_4, r19_5, r19_6, c19, F19, v_right, c1, va, c2, vb, c3, he, h_, go_sem, Int.reduceTMod, Int.reduceTDiv, Int.reduceDiv, Int.reduceMod, Int.reduceAdd, Int.reduceSub, Int.reduceMul, Int.reduceNeg, Int.reducePow, Int.reduceEq, ↓reduceIte, Nat.reduceEqDiff, Nat.reduceAdd, Nat.reduceMul, Nat.reduceLeDiff, Nat.reduceSub, Nat.reduceLT, Int.reduceToNat, Int.reduceLT, Int.reduceLE, reduceCtorEq]))
          exact bad _ _
theorem v_near (p q : Pt) (hx : -1 ≤ p.x - q.x ∧ p.x - q.x ≤ 1) (hy : -1 ≤ p.y - q.y ∧ p.y - q.y ≤ 1) (m : Mem) (n : Nat) : callF TA 20 [.agg [I p.x, I p.y], .agg [I q.x, I q.y]] m n = some (RB true) := by
  have a1 : IntKind.i64.wrap (p.x - q.x) = p.x - q.x := wr_eq (by omega) (by omega)
  have a2 : IntKind.i64.wrap (q.x - p.x) = q.x - p.x := wr_eq (by omega) (by omega)
  have a3 : IntKind.i64.wrap (p.y - q.y) = p.y - q.y := wr_eq (by omega) (by omega)
  have a4 : IntKind.i64.wrap (q.y - p.y) = q.y - p.y := wr_eq (by omega) (by omega)
  have b1 : (p.x - q.x ≤ 1) = True := eq_true (by omega)
  have b2 : (q.x - p.x ≤ 1) = True := eq_true (by omega)
  have b3 : (p.y - q.y ≤ 1) = True := eq_true (by omega)
  have b4 : (q.y - p.y ≤ 1) = True := eq_true (by omega)
  refine callF_of (Fn_ofK (fn := F20) rfl (by simp [F20]) ?_)
  try simp only [r20_0, r20_1, c20, F20, a1, a2, a3, a4, b1, b2, b3, b4, go_sem, Int.reduceTMod, Int.reduceTDiv, Int.reduceDiv, Int.reduceMod, Int.reduceAdd, Int.reduceSub, Int.reduceMul, Int.reduceNeg, Int.reducePow, Int.reduceEq, ↓reduceIte, Nat.reduceEqDiff, Nat.reduceAdd, Nat.reduceMul, Nat.reduceLeDiff, Nat.reduceSub, Nat.reduceLT, Int.reduceToNat, Int.reduceLT, Int.reduceLE, reduceCtorEq]
  repeat' ((first | refine FK_split (fun h_ => ?_) (fun h_ => ?_) | refine GK_split (fun h_ => ?_) (fun h_ => ?_) | refine ite_both (fun h_ => ?_) (fun h_ => ?_)) <;> (try simp only [decide_eq_true_eq, decide_eq_false_iff_not, Bool.not_true, Bool.not_false, Bool.not_eq_true', Bool.not_eq_false', Bool.not_eq_eq_eq_not, Decidable.not_not] at h_) <;> (try simp only [r20_0, r20_1, c20, F20, a1, a2, a3, a4, b1, b2, b3, b4, h_, go_sem, Int.reduceTMod, Int.reduceTDiv, Int.reduceDiv, Int.reduceMod, Int.reduceAdd, Int.reduceSub, Int.reduceMul, Int.reduceNeg, Int.reducePow, Int.reduceEq, ↓reduceIte, Nat.reduceEqDiff, Nat.reduceAdd, Nat.reduceMul, Nat.reduceLeDiff, Nat.reduceSub, Nat.reduceLT, Int.reduceToNat, Int.reduceLT, Int.reduceLE, reduceCtorEq]))
theorem rnd_neg {x d : Int} (hd : 0 < d) : 0 ≤ rnd x d + rnd (-x) d ∧ rnd x d + rnd (-x) d ≤ 1 := by
  unfold rnd
  have h1 := Int.mul_ediv_add_emod (2 * x + d) (2 * d)
  have h2 := Int.mul_ediv_add_emod (2 * -x + d) (2 * d)
  have a1 := Int.emod_nonneg (2 * x + d) (show 2 * d ≠ 0 by omega)
  have a2 := Int.emod_lt_of_pos (2 * x + d) (show 0 < 2 * d by omega)
  have b1 := Int.emod_nonneg (2 * -x + d) (show 2 * d ≠ 0 by omega)
  have b2 := Int.emod_lt_of_pos (2 * -x + d) (show 0 < 2 * d by omega)
  generalize (2 * x + d) / (2 * d) = u at *
  generalize (2 * -x + d) / (2 * d) = v at *
  have e : 2 * d * (u + v) = 2 * d * u + 2 * d * v := Int.mul_add _ _ _
  constructor
  · rcases Int.lt_or_le (u + v) 0 with h | h
    · have := Int.mul_le_mul_of_nonneg_left (show u + v ≤ -1 by omega) (show 0 ≤ 2 * d by omega)
      omega
    · exact h
  · rcases Int.lt_or_le 1 (u + v) with h | h
    · have := Int.mul_le_mul_of_nonneg_left (show 2 ≤ u + v by omega) (show 0 ≤ 2 * d by omega)
      omega
    · exact h
theorem sN_pos {x y : Int} (hl : longB x y = false) (hne : x ≠ 0 ∨ y ≠ 0) : 0 < sN x y := (step_bd (h := 1) hl hne (by decide) (by decide)).1.1
theorem step_h {x y h : Int} (hl : longB x y = false) (hne : x ≠ 0 ∨ y ≠ 0) (h0 : 0 ≤ h) (z : Int) (hz : z = x ∨ z = y ∨ z = -y) : -h ≤ rnd (z * h) (sN x y) ∧ rnd (z * h) (sN x y) ≤ h := by
  have sq := sq_bd hl
  have hn : 0 ≤ x * x + y * y := by omega
  have hx := le_isq (z := x) hn (by omega)
  have hy := le_isq (z := y) hn (by omega)
  have hN := sN_pos hl hne
  have hzN : -sN x y ≤ z ∧ z ≤ sN x y := by unfold sN; rcases hz with rfl | rfl | rfl <;> omega
  have k1 : z * h ≤ h * sN x y := by rw [Int.mul_comm h]; exact Int.mul_le_mul_of_nonneg_right hzN.2 (by omega)
  have k2 : -h * sN x y ≤ z * h := by
    have := Int.mul_le_mul_of_nonneg_right hzN.1 (show 0 ≤ h by omega)
    rw [Int.neg_mul, Int.mul_comm] at this
    rw [Int.neg_mul]
    exact this
  exact ⟨rnd_ge (x := z * h) (d := sN x y) (b := -h) (by omega) k2, rnd_le (x := z * h) (d := sN x y) (b := h) (by omega) k1⟩

/- How often a closed line goes round a place walked; the law StrokeWinds. Conditions: those that each theorem names. -/
open Go Go.Proofs
set_option linter.unusedSimpArgs false
set_option linter.unusedVariables false

theorem sgW_pos {x : Int} : (0 < sgn x) = (0 < x) := by unfold sgn; repeat' split <;> (try simp) <;> omega
theorem sgW_neg {x : Int} : (sgn x < 0) = (x < 0) := by unfold sgn; repeat' split <;> (try simp) <;> omega
theorem winds_bd (l : List Pt) (s : Pt) : ∀ i : Nat, -(i : Int) ≤ windsTo l s i ∧ windsTo l s i ≤ i
  | 0 => by simp [windsTo]
  | i + 1 => by
    have ih := winds_bd l s i
    have he : ∀ p q : Pt, -1 ≤ edgeW p q s ∧ edgeW p q s ≤ 1 := fun p q => by unfold edgeW; repeat' split <;> omega
    rw [windsTo]
    split
    · rename_i p q _ _
      have := he p q
      omega
    · omega
theorem v_Winds (r : Reg) (l : List Pt) (s : Pt) (m : Mem) (n : Nat) (hr : RPt m n r l) (hl : l.length < 1000000) (hi : l.all inP = true) (hs : inP s = true) : callF TA 21 [r, .agg [I s.x, I s.y]] m n = some (RI (windsTo l s l.length)) := by
  refine callF_of (Fn_ofK (fn := F21) rfl (by simp [F21]) ?_)
  have hlen := hr.len
  have hs' : inP ⟨s.x, s.y⟩ = true := hs
  simp only [inP, Bool.and_eq_true] at hs'
  try simp only [r21_0, r21_1, r21_2, r21_3, r21_4, r21_5, r21_6, r21_7, r21_8, r21_9, r21_10, r21_11, c21, F21, hlen, go_sem, Int.reduceTMod, Int.reduceTDiv, Int.reduceDiv, Int.reduceMod, Int.reduceAdd, Int.reduceSub, Int.reduceMul, Int.reduceNeg, Int.reducePow, Int.reduceEq, ↓reduceIte, Nat.reduceEqDiff, Nat.reduceAdd, Nat.reduceMul, Nat.reduceLeDiff, Nat.reduceSub, Nat.reduceLT, Int.reduceToNat, Int.reduceLT, Int.reduceLE, reduceCtorEq]
  repeat' ((first | refine FK_split (fun h_ => ?_) (fun h_ => ?_) | refine GK_split (fun h_ => ?_) (fun h_ => ?_) | refine ite_both (fun h_ => ?_) (fun h_ => ?_)) <;> (try simp only [decide_eq_true_eq, decide_eq_false_iff_not, Bool.not_true, Bool.not_false, Bool.not_eq_true', Bool.not_eq_false', Bool.not_eq_eq_eq_not, Decidable.not_not] at h_) <;> (try simp only [r21_0, r21_1, r21_2, r21_3, r21_4, r21_5, r21_6, r21_7, r21_8, r21_9, r21_10, r21_11, c21, F21, hlen, h_, go_sem, Int.reduceTMod, Int.reduceTDiv, Int.reduceDiv, Int.reduceMod, Int.reduceAdd, Int.reduceSub, Int.reduceMul, Int.reduceNeg, Int.reducePow, Int.reduceEq, ↓reduceIte, Nat.reduceEqDiff, Nat.reduceAdd, Nat.reduceMul, Nat.reduceLeDiff, Nat.reduceSub, Nat.reduceLT, Int.reduceToNat, Int.reduceLT, Int.reduceLE, reduceCtorEq]))
  refine XK_iter (inv := fun i t => t.e 11 = RI i ∧ t.e 10 = RI l.length ∧ t.e 9 = r ∧ t.e 0 = r ∧ t.e 3 = .one (.ptr n 0) ∧ t.e 5 = RI (windsTo l s i) ∧ n + 1 ≤ t.n ∧ (∀ id, id < n → t.m id = m id) ∧ t.m n = some ⟨[I s.x, I s.y], true⟩) l.length
    (fun L _ => ⟨fun i hi' t ht next => ?_, fun t ht => ?_⟩) 0 (by omega) _ ⟨?_, ?_, ?_, ?_, ?_, ?_, ?_, fun id hid => ?_, ?_⟩
  · obtain ⟨e, M, N⟩ := t
    obtain ⟨q11, q10, q9, q0, q3, q5, qn, qm, qs⟩ := ht
    simp only at q11 q10 q9 q0 q3 q5 qn qm qs
    have hr2 : RPt M N r l := hr.keep (by omega) qm
    have hq : l[i]? = some l[i] := List.getElem?_eq_getElem hi'
    have hj : (i + l.length - 1) % l.length < l.length := Nat.mod_lt _ (by omega)
    have hp : l[(i + l.length - 1) % l.length]? = some (l[(i + l.length - 1) % l.length]'hj) := List.getElem?_eq_getElem hj
    obtain ⟨id, off, cap, hr1, hid, hrd⟩ := hr2.at cs2 hq
    obtain ⟨id', off', cap', hr1', _, hrd'⟩ := hr2.at cs2 hp
    rw [hr1] at hr1'
    simp only [Reg.one.injEq, Cell.sl.injEq, true_and] at hr1'
    obtain ⟨rfl, rfl, rfl, _⟩ := hr1'
    have hw : windsTo l s (i + 1) = windsTo l s i + edgeW (l[(i + l.length - 1) % l.length]'hj) l[i] s := by rw [windsTo, hp, hq]
    have iq : inP ⟨l[i].x, l[i].y⟩ = true := List.all_eq_true.1 hi _ (List.getElem_mem hi')
    have ip : inP ⟨(l[(i + l.length - 1) % l.length]'hj).x, (l[(i + l.length - 1) % l.length]'hj).y⟩ = true := List.all_eq_true.1 hi _ (List.getElem_mem hj)
    have c2 : ((i : Int) < (l.length : Int)) = True := eq_true (by omega)
    have c3 : (0 ≤ (i : Int)) = True := eq_true (by omega)
    have c7 : IntKind.i64.wrap ((i : Int) + 1) = ((i + 1 : Nat) : Int) := wr_nat (by omega)
    have d1 : IntKind.i64.wrap ((i : Int) + (l.length : Int)) = (i : Int) + l.length := wr_eq (by omega) (by omega)
    have d2 : IntKind.i64.wrap ((i : Int) + (l.length : Int) - 1) = (i : Int) + l.length - 1 := wr_eq (by omega) (by omega)
    have d3 : ((i : Int) + l.length - 1).tmod (l.length : Int) = (((i + l.length - 1) % l.length : Nat) : Int) := by
      rw [show ((i : Int) + l.length - 1) = ((i + l.length - 1 : Nat) : Int) by omega]
      exact (Int.ofNat_tmod _ _).symm
    have d4 : ((l.length : Int) = 0) = False := eq_false (by omega)
    generalize (i + l.length - 1) % l.length = j at *
    have d5 : ((j : Int) < (l.length : Int)) = True := eq_true (by omega)
    have d6 : (0 ≤ (j : Int)) = True := eq_true (by omega)
    have hb := winds_bd l s i
    generalize windsTo l s (i + 1) = w1 at *
    generalize windsTo l s i = w0 at *
    generalize (l[j]'hj) = p at *
    generalize l[i] = q at *
    simp only [inP, Bool.and_eq_true] at ip iq
    have n1 := na_0 hid
    have n2 := na_0 (show n < N by omega)
    have n3 : ∀ k, (id = N + k) = False := fun k => na_ne hid
    have n4 : ∀ k, (n = N + k) = False := fun k => na_ne (show n < N by omega)
    have vs := v_Side p.x p.y q.x q.y s.x s.y ip.1 ip.2 iq.1 iq.2 hs'.1 hs'.2
    rw [show cross p.x p.y q.x q.y s.x s.y = crossP p q s from rfl] at vs
    have w1' : IntKind.i64.wrap (w0 + 1) = w0 + 1 := wr_eq (by omega) (by omega)
    have w2' : IntKind.i64.wrap (w0 - 1) = w0 - 1 := wr_eq (by omega) (by omega)
    unfold edgeW at hw
    rw [hr1] at q9 q0
    try simp only [r21_0, r21_1, r21_2, r21_3, r21_4, r21_5, r21_6, r21_7, r21_8, r21_9, r21_10, r21_11, c21, F21, l21_0, q11, q10, q9, q0, q3, q5, c2, c3, c7, d1, d2, d3, d4, d5, d6, hrd, hrd', qs, rd_of qs, n1, n2, n3, n4, vs, w1', w2', sgW_pos, sgW_neg, lenO, Int.toNat_natCast, go_sem, Int.reduceTMod, Int.reduceTDiv, Int.reduceDiv, Int.reduceMod, Int.reduceAdd, Int.reduceSub, Int.reduceMul, Int.reduceNeg, Int.reducePow, Int.reduceEq, ↓reduceIte, Nat.reduceEqDiff, Nat.reduceAdd, Nat.reduceMul, Nat.reduceLeDiff, Nat.reduceSub, Nat.reduceLT, Int.reduceToNat, Int.reduceLT, Int.reduceLE, reduceCtorEq]
    repeat' ((first | refine FK_split (fun h_ => ?_) (fun h_ => ?_) | refine GK_split (fun h_ => ?_) (fun h_ => ?_) | refine ite_both (fun h_ => ?_) (fun h_ => ?_)) <;> (try simp only [decide_eq_true_eq, decide_eq_false_iff_not, Bool.not_true, Bool.not_false, Bool.not_eq_true', Bool.not_eq_false', Bool.not_eq_eq_eq_not, Decidable.not_not] at h_) <;> (try simp only [r21_0, r21_1, r21_2, r21_3, r21_4, r21_5, r21_6, r21_7, r21_8, r21_9, r21_10, r21_11, c21, F21, l21_0, q11, q10, q9, q0, q3, q5, c2, c3, c7, d1, d2, d3, d4, d5, d6, hrd, hrd', qs, rd_of qs, n1, n2, n3, n4, vs, w1', w2', sgW_pos, sgW_neg, lenO, Int.toNat_natCast, h_, go_sem, Int.reduceTMod, Int.reduceTDiv, Int.reduceDiv, Int.reduceMod, Int.reduceAdd, Int.reduceSub, Int.reduceMul, Int.reduceNeg, Int.reducePow, Int.reduceEq, ↓reduceIte, Nat.reduceEqDiff, Nat.reduceAdd, Nat.reduceMul, Nat.reduceLeDiff, Nat.reduceSub, Nat.reduceLT, Int.reduceToNat, Int.reduceLT, Int.reduceLE, reduceCtorEq]))
    all_goals
      refine next _ ⟨?_, ?_, ?_, ?_, ?_, ?_, ?_, fun id2 hid2 => ?_, ?_⟩
      · simp only [go_sem, Int.reduceTMod, Int.reduceTDiv, Int.reduceDiv, Int.reduceMod, Int.reduceAdd, Int.reduceSub, Int.reduceMul, Int.reduceNeg, Int.reducePow, Int.reduceEq, ↓reduceIte, Nat.reduceEqDiff, Nat.reduceAdd, Nat.reduceMul, Nat.reduceLeDiff, Nat.reduceSub, Nat.reduceLT, Int.reduceToNat, Int.reduceLT, Int.reduceLE, reduceCtorEq]
      · simp only [q10, go_sem, Int.reduceTMod, Int.reduceTDiv, Int.reduceDiv, Int.reduceMod, Int.reduceAdd, Int.reduceSub, Int.reduceMul, Int.reduceNeg, Int.reducePow, Int.reduceEq, ↓reduceIte, Nat.reduceEqDiff, Nat.reduceAdd, Nat.reduceMul, Nat.reduceLeDiff, Nat.reduceSub, Nat.reduceLT, Int.reduceToNat, Int.reduceLT, Int.reduceLE, reduceCtorEq]
      · simp only [q9, hr1, go_sem, Int.reduceTMod, Int.reduceTDiv, Int.reduceDiv, Int.reduceMod, Int.reduceAdd, Int.reduceSub, Int.reduceMul, Int.reduceNeg, Int.reducePow, Int.reduceEq, ↓reduceIte, Nat.reduceEqDiff, Nat.reduceAdd, Nat.reduceMul, Nat.reduceLeDiff, Nat.reduceSub, Nat.reduceLT, Int.reduceToNat, Int.reduceLT, Int.reduceLE, reduceCtorEq]
      · simp only [q0, hr1, go_sem, Int.reduceTMod, Int.reduceTDiv, Int.reduceDiv, Int.reduceMod, Int.reduceAdd, Int.reduceSub, Int.reduceMul, Int.reduceNeg, Int.reducePow, Int.reduceEq, ↓reduceIte, Nat.reduceEqDiff, Nat.reduceAdd, Nat.reduceMul, Nat.reduceLeDiff, Nat.reduceSub, Nat.reduceLT, Int.reduceToNat, Int.reduceLT, Int.reduceLE, reduceCtorEq]
      · simp only [q3, go_sem, Int.reduceTMod, Int.reduceTDiv, Int.reduceDiv, Int.reduceMod, Int.reduceAdd, Int.reduceSub, Int.reduceMul, Int.reduceNeg, Int.reducePow, Int.reduceEq, ↓reduceIte, Nat.reduceEqDiff, Nat.reduceAdd, Nat.reduceMul, Nat.reduceLeDiff, Nat.reduceSub, Nat.reduceLT, Int.reduceToNat, Int.reduceLT, Int.reduceLE, reduceCtorEq]
      · simp only [q5, go_sem, Int.reduceTMod, Int.reduceTDiv, Int.reduceDiv, Int.reduceMod, Int.reduceAdd, Int.reduceSub, Int.reduceMul, Int.reduceNeg, Int.reducePow, Int.reduceEq, ↓reduceIte, Nat.reduceEqDiff, Nat.reduceAdd, Nat.reduceMul, Nat.reduceLeDiff, Nat.reduceSub, Nat.reduceLT, Int.reduceToNat, Int.reduceLT, Int.reduceLE, reduceCtorEq]
        refine congrArg (fun x => Reg.one (Cell.sc (Value.int IntKind.i64 x))) ?_
        rw [hw]
        repeat' split
        all_goals omega
      · simp only [go_sem, Int.reduceTMod, Int.reduceTDiv, Int.reduceDiv, Int.reduceMod, Int.reduceAdd, Int.reduceSub, Int.reduceMul, Int.reduceNeg, Int.reducePow, Int.reduceEq, ↓reduceIte, Nat.reduceEqDiff, Nat.reduceAdd, Nat.reduceMul, Nat.reduceLeDiff, Nat.reduceSub, Nat.reduceLT, Int.reduceToNat, Int.reduceLT, Int.reduceLE, reduceCtorEq]
        omega
      · simp only [na_0 (show id2 < N by omega), na_ne (show id2 < N by omega), go_sem, Int.reduceTMod, Int.reduceTDiv, Int.reduceDiv, Int.reduceMod, Int.reduceAdd, Int.reduceSub, Int.reduceMul, Int.reduceNeg, Int.reducePow, Int.reduceEq, ↓reduceIte, Nat.reduceEqDiff, Nat.reduceAdd, Nat.reduceMul, Nat.reduceLeDiff, Nat.reduceSub, Nat.reduceLT, Int.reduceToNat, Int.reduceLT, Int.reduceLE, reduceCtorEq]
        exact qm id2 hid2
      · simp only [n2, n4, go_sem, Int.reduceTMod, Int.reduceTDiv, Int.reduceDiv, Int.reduceMod, Int.reduceAdd, Int.reduceSub, Int.reduceMul, Int.reduceNeg, Int.reducePow, Int.reduceEq, ↓reduceIte, Nat.reduceEqDiff, Nat.reduceAdd, Nat.reduceMul, Nat.reduceLeDiff, Nat.reduceSub, Nat.reduceLT, Int.reduceToNat, Int.reduceLT, Int.reduceLE, reduceCtorEq]
        exact qs
  · obtain ⟨e, M, N⟩ := t
    obtain ⟨q11, q10, q9, q0, q3, q5, qn, qm, qs⟩ := ht
    simp only at q11 q10 q9 q0 q3 q5 qn qm qs
    have c2 : ((l.length : Int) < (l.length : Int)) = False := eq_false (by omega)
    try simp only [r21_0, r21_1, r21_2, r21_3, r21_4, r21_5, r21_6, r21_7, r21_8, r21_9, r21_10, r21_11, c21, F21, l21_0, q11, q10, q5, c2, go_sem, Int.reduceTMod, Int.reduceTDiv, Int.reduceDiv, Int.reduceMod, Int.reduceAdd, Int.reduceSub, Int.reduceMul, Int.reduceNeg, Int.reducePow, Int.reduceEq, ↓reduceIte, Nat.reduceEqDiff, Nat.reduceAdd, Nat.reduceMul, Nat.reduceLeDiff, Nat.reduceSub, Nat.reduceLT, Int.reduceToNat, Int.reduceLT, Int.reduceLE, reduceCtorEq]
    repeat' ((first | refine FK_split (fun h_ => ?_) (fun h_ => ?_) | refine GK_split (fun h_ => ?_) (fun h_ => ?_) | refine ite_both (fun h_ => ?_) (fun h_ => ?_)) <;> (try simp only [decide_eq_true_eq, decide_eq_false_iff_not, Bool.not_true, Bool.not_false, Bool.not_eq_true', Bool.not_eq_false', Bool.not_eq_eq_eq_not, Decidable.not_not] at h_) <;> (try simp only [r21_0, r21_1, r21_2, r21_3, r21_4, r21_5, r21_6, r21_7, r21_8, r21_9, r21_10, r21_11, c21, F21, l21_0, q11, q10, q5, c2, h_, go_sem, Int.reduceTMod, Int.reduceTDiv, Int.reduceDiv, Int.reduceMod, Int.reduceAdd, Int.reduceSub, Int.reduceMul, Int.reduceNeg, Int.reducePow, Int.reduceEq, ↓reduceIte, Nat.reduceEqDiff, Nat.reduceAdd, Nat.reduceMul, Nat.reduceLeDiff, Nat.reduceSub, Nat.reduceLT, Int.reduceToNat, Int.reduceLT, Int.reduceLE, reduceCtorEq]))
  · simp only [go_sem, Int.reduceTMod, Int.reduceTDiv, Int.reduceDiv, Int.reduceMod, Int.reduceAdd, Int.reduceSub, Int.reduceMul, Int.reduceNeg, Int.reducePow, Int.reduceEq, ↓reduceIte, Nat.reduceEqDiff, Nat.reduceAdd, Nat.reduceMul, Nat.reduceLeDiff, Nat.reduceSub, Nat.reduceLT, Int.reduceToNat, Int.reduceLT, Int.reduceLE, reduceCtorEq]
  · simp only [go_sem, Int.reduceTMod, Int.reduceTDiv, Int.reduceDiv, Int.reduceMod, Int.reduceAdd, Int.reduceSub, Int.reduceMul, Int.reduceNeg, Int.reducePow, Int.reduceEq, ↓reduceIte, Nat.reduceEqDiff, Nat.reduceAdd, Nat.reduceMul, Nat.reduceLeDiff, Nat.reduceSub, Nat.reduceLT, Int.reduceToNat, Int.reduceLT, Int.reduceLE, reduceCtorEq]
  · simp only [go_sem, Int.reduceTMod, Int.reduceTDiv, Int.reduceDiv, Int.reduceMod, Int.reduceAdd, Int.reduceSub, Int.reduceMul, Int.reduceNeg, Int.reducePow, Int.reduceEq, ↓reduceIte, Nat.reduceEqDiff, Nat.reduceAdd, Nat.reduceMul, Nat.reduceLeDiff, Nat.reduceSub, Nat.reduceLT, Int.reduceToNat, Int.reduceLT, Int.reduceLE, reduceCtorEq]
  · simp only [go_sem, Int.reduceTMod, Int.reduceTDiv, Int.reduceDiv, Int.reduceMod, Int.reduceAdd, Int.reduceSub, Int.reduceMul, Int.reduceNeg, Int.reducePow, Int.reduceEq, ↓reduceIte, Nat.reduceEqDiff, Nat.reduceAdd, Nat.reduceMul, Nat.reduceLeDiff, Nat.reduceSub, Nat.reduceLT, Int.reduceToNat, Int.reduceLT, Int.reduceLE, reduceCtorEq]
  · simp only [go_sem, Int.reduceTMod, Int.reduceTDiv, Int.reduceDiv, Int.reduceMod, Int.reduceAdd, Int.reduceSub, Int.reduceMul, Int.reduceNeg, Int.reducePow, Int.reduceEq, ↓reduceIte, Nat.reduceEqDiff, Nat.reduceAdd, Nat.reduceMul, Nat.reduceLeDiff, Nat.reduceSub, Nat.reduceLT, Int.reduceToNat, Int.reduceLT, Int.reduceLE, reduceCtorEq]
  · simp only [windsTo, go_sem, Int.reduceTMod, Int.reduceTDiv, Int.reduceDiv, Int.reduceMod, Int.reduceAdd, Int.reduceSub, Int.reduceMul, Int.reduceNeg, Int.reducePow, Int.reduceEq, ↓reduceIte, Nat.reduceEqDiff, Nat.reduceAdd, Nat.reduceMul, Nat.reduceLeDiff, Nat.reduceSub, Nat.reduceLT, Int.reduceToNat, Int.reduceLT, Int.reduceLE, reduceCtorEq]
  · simp only [go_sem, Int.reduceTMod, Int.reduceTDiv, Int.reduceDiv, Int.reduceMod, Int.reduceAdd, Int.reduceSub, Int.reduceMul, Int.reduceNeg, Int.reducePow, Int.reduceEq, ↓reduceIte, Nat.reduceEqDiff, Nat.reduceAdd, Nat.reduceMul, Nat.reduceLeDiff, Nat.reduceSub, Nat.reduceLT, Int.reduceToNat, Int.reduceLT, Int.reduceLE, reduceCtorEq]
    omega
  · simp only [na_0 hid, na_ne hid, go_sem, Int.reduceTMod, Int.reduceTDiv, Int.reduceDiv, Int.reduceMod, Int.reduceAdd, Int.reduceSub, Int.reduceMul, Int.reduceNeg, Int.reducePow, Int.reduceEq, ↓reduceIte, Nat.reduceEqDiff, Nat.reduceAdd, Nat.reduceMul, Nat.reduceLeDiff, Nat.reduceSub, Nat.reduceLT, Int.reduceToNat, Int.reduceLT, Int.reduceLE, reduceCtorEq]
  · simp only [go_sem, Int.reduceTMod, Int.reduceTDiv, Int.reduceDiv, Int.reduceMod, Int.reduceAdd, Int.reduceSub, Int.reduceMul, Int.reduceNeg, Int.reducePow, Int.reduceEq, ↓reduceIte, Nat.reduceEqDiff, Nat.reduceAdd, Nat.reduceMul, Nat.reduceLeDiff, Nat.reduceSub, Nat.reduceLT, Int.reduceToNat, Int.reduceLT, Int.reduceLE, reduceCtorEq]
theorem stroke_ok {q : List Pt} {h : Int} (c : Bool) (cap : Int) : ∀ x ∈ strokeI q c h cap, x.1 = true → x.2.all inP = true :=
  stroke_mem (P := fun x => x.1 = true → x.2.all inP = true) (fun a b _ _ h => by simp only [barI, Bool.and_eq_true] at h; exact h.2) (fun a _ h => h) (fun a _ h => h) (fun a b _ _ h => h) (fun a b _ _ h => h) c cap
theorem kk_zero {its : List (Bool × List Pt)} {good : Bool} (h : kkOf its good = 0) : good = true ∧ its.all (·.1) = true ∧ lsOf its good = its.map (·.2) := by
  unfold kkOf at h
  unfold lsOf
  cases good
  · simp at h
  · cases ha : its.all (·.1)
    · rw [ha] at h; simp at h
    · simp
set_option maxHeartbeats 4000000 in
theorem law6 (c0 : Cell) (l : List Pt) (c : Bool) (h : Int) (q : Pt) (m : Mem) (n : Nat) (hr : RPt m n (.one c0) l) (h0n : 0 < n) (o : Bool) (hm0 : m 0 = some ⟨cosT, o⟩) : Fn TA 6 [.agg [c0, .sc (.bool c)], RI h, .agg [I q.x, I q.y]] m n (fun r _ _ => r = RB true) := by
  refine Fn_ofK (fn := F6) rfl (by simp [F6]) ?_
  have hlen := hr.len
  have z0 := na_0 h0n
  by_cases g : 20 < (l.length : Int)
  · skip
    try simp only [r6_0, r6_1, r6_2, r6_3, r6_4, r6_5, r6_6, r6_7, r6_8, r6_9, r6_10, r6_11, r6_12, r6_13, r6_14, r6_15, r6_16, c6, F6, hlen, g, v_awake07, go_sem, Int.reduceTMod, Int.reduceTDiv, Int.reduceDiv, Int.reduceMod, Int.reduceAdd, Int.reduceSub, Int.reduceMul, Int.reduceNeg, Int.reducePow, Int.reduceEq, ↓reduceIte, Nat.reduceEqDiff, Nat.reduceAdd, Nat.reduceMul, Nat.reduceLeDiff, Nat.reduceSub, Nat.reduceLT, Int.reduceToNat, Int.reduceLT, Int.reduceLE, reduceCtorEq]
    repeat' ((first | refine FK_split (fun h_ => ?_) (fun h_ => ?_) | refine GK_split (fun h_ => ?_) (fun h_ => ?_) | refine ite_both (fun h_ => ?_) (fun h_ => ?_)) <;> (try simp only [decide_eq_true_eq, decide_eq_false_iff_not, Bool.not_true, Bool.not_false, Bool.not_eq_true', Bool.not_eq_false', Bool.not_eq_eq_eq_not, Decidable.not_not] at h_) <;> (try simp only [r6_0, r6_1, r6_2, r6_3, r6_4, r6_5, r6_6, r6_7, r6_8, r6_9, r6_10, r6_11, r6_12, r6_13, r6_14, r6_15, r6_16, c6, F6, hlen, g, v_awake07, h_, go_sem, Int.reduceTMod, Int.reduceTDiv, Int.reduceDiv, Int.reduceMod, Int.reduceAdd, Int.reduceSub, Int.reduceMul, Int.reduceNeg, Int.reducePow, Int.reduceEq, ↓reduceIte, Nat.reduceEqDiff, Nat.reduceAdd, Nat.reduceMul, Nat.reduceLeDiff, Nat.reduceSub, Nat.reduceLT, Int.reduceToNat, Int.reduceLT, Int.reduceLE, reduceCtorEq]))
  · have vl := v_lin q.x q.y
    cases hq : inP ⟨q.x, q.y⟩
    · rw [hq] at vl
      try simp only [r6_0, r6_1, r6_2, r6_3, r6_4, r6_5, r6_6, r6_7, r6_8, r6_9, r6_10, r6_11, r6_12, r6_13, r6_14, r6_15, r6_16, c6, F6, hlen, g, vl, v_awake07, go_sem, Int.reduceTMod, Int.reduceTDiv, Int.reduceDiv, Int.reduceMod, Int.reduceAdd, Int.reduceSub, Int.reduceMul, Int.reduceNeg, Int.reducePow, Int.reduceEq, ↓reduceIte, Nat.reduceEqDiff, Nat.reduceAdd, Nat.reduceMul, Nat.reduceLeDiff, Nat.reduceSub, Nat.reduceLT, Int.reduceToNat, Int.reduceLT, Int.reduceLE, reduceCtorEq]
      repeat' ((first | refine FK_split (fun h_ => ?_) (fun h_ => ?_) | refine GK_split (fun h_ => ?_) (fun h_ => ?_) | refine ite_both (fun h_ => ?_) (fun h_ => ?_)) <;> (try simp only [decide_eq_true_eq, decide_eq_false_iff_not, Bool.not_true, Bool.not_false, Bool.not_eq_true', Bool.not_eq_false', Bool.not_eq_eq_eq_not, Decidable.not_not] at h_) <;> (try simp only [r6_0, r6_1, r6_2, r6_3, r6_4, r6_5, r6_6, r6_7, r6_8, r6_9, r6_10, r6_11, r6_12, r6_13, r6_14, r6_15, r6_16, c6, F6, hlen, g, vl, v_awake07, h_, go_sem, Int.reduceTMod, Int.reduceTDiv, Int.reduceDiv, Int.reduceMod, Int.reduceAdd, Int.reduceSub, Int.reduceMul, Int.reduceNeg, Int.reducePow, Int.reduceEq, ↓reduceIte, Nat.reduceEqDiff, Nat.reduceAdd, Nat.reduceMul, Nat.reduceLeDiff, Nat.reduceSub, Nat.reduceLT, Int.reduceToNat, Int.reduceLT, Int.reduceLE, reduceCtorEq]))
    · rw [hq] at vl
      have hq2 : inP q = true := hq
      obtain ⟨M0, hM0⟩ : ∃ M0, M0 = upd (upd m n (some ⟨[c0, .sc (.bool c)], true⟩)) (n + 1) (some ⟨[I q.x, I q.y], true⟩) := ⟨_, rfl⟩
      have hf0 : ∀ id, id < n → M0 id = m id := fun id hid => by rw [hM0, upd_ne _ _ (by omega), upd_ne _ _ (by omega)]
      have hb0 : M0 n = some ⟨[c0, .sc (.bool c)], true⟩ := by rw [hM0, upd_ne _ _ (by omega), upd_same]
      have hb1 : M0 (n + 1) = some ⟨[I q.x, I q.y], true⟩ := by rw [hM0, upd_same]
      have hr0 : RPt M0 (n + 2) (.one c0) l := hr.keep (by omega) hf0
      have hz0 : M0 0 = some ⟨cosT, o⟩ := by rw [hf0 0 h0n]; exact hm0
      try simp only [r6_0, r6_1, r6_2, r6_3, r6_4, r6_5, r6_6, r6_7, r6_8, r6_9, r6_10, r6_11, r6_12, r6_13, r6_14, r6_15, r6_16, c6, F6, hlen, g, vl, go_sem, Int.reduceTMod, Int.reduceTDiv, Int.reduceDiv, Int.reduceMod, Int.reduceAdd, Int.reduceSub, Int.reduceMul, Int.reduceNeg, Int.reducePow, Int.reduceEq, ↓reduceIte, Nat.reduceEqDiff, Nat.reduceAdd, Nat.reduceMul, Nat.reduceLeDiff, Nat.reduceSub, Nat.reduceLT, Int.reduceToNat, Int.reduceLT, Int.reduceLE, reduceCtorEq]
      repeat' ((first | refine FK_split (fun h_ => ?_) (fun h_ => ?_) | refine GK_split (fun h_ => ?_) (fun h_ => ?_) | refine ite_both (fun h_ => ?_) (fun h_ => ?_)) <;> (try simp only [decide_eq_true_eq, decide_eq_false_iff_not, Bool.not_true, Bool.not_false, Bool.not_eq_true', Bool.not_eq_false', Bool.not_eq_eq_eq_not, Decidable.not_not] at h_) <;> (try simp only [r6_0, r6_1, r6_2, r6_3, r6_4, r6_5, r6_6, r6_7, r6_8, r6_9, r6_10, r6_11, r6_12, r6_13, r6_14, r6_15, r6_16, c6, F6, hlen, g, vl, h_, go_sem, Int.reduceTMod, Int.reduceTDiv, Int.reduceDiv, Int.reduceMod, Int.reduceAdd, Int.reduceSub, Int.reduceMul, Int.reduceNeg, Int.reducePow, Int.reduceEq, ↓reduceIte, Nat.reduceEqDiff, Nat.reduceAdd, Nat.reduceMul, Nat.reduceLeDiff, Nat.reduceSub, Nat.reduceLT, Int.reduceToNat, Int.reduceLT, Int.reduceLE, reduceCtorEq]))
      rw [← hM0]
      refine XK_iter (inv := fun i s => s.e 23 = RI i ∧ s.e 3 = .one (.ptr n 0) ∧ s.e 5 = .one (.ptr (n + 1) 0) ∧ s.e 1 = RI h ∧ n + 2 ≤ s.n ∧ ∀ id, id < n + 2 → s.m id = M0 id) 3
        (fun L _ => ⟨fun i hi s hs' next => ?_, fun s hs' => ?_⟩) 0 (by omega) _ ⟨?_, ?_, ?_, ?_, Nat.le_refl _, fun _ _ => rfl⟩
      · obtain ⟨e, M, N⟩ := s
        obtain ⟨q23, q3, q5, q1, qn, qm⟩ := hs'
        simp only at q23 q3 q5 q1 qn qm
        have c2 : ((i : Int) < 3) = True := eq_true (by omega)
        have c7 : IntKind.i64.wrap ((i : Int) + 1) = ((i + 1 : Nat) : Int) := wr_nat (by omega)
        have hr1 : RPt M N (.one c0) l := hr0.keep qn qm
        have hb : M n = some ⟨[c0, .sc (.bool c)], true⟩ := by rw [qm n (by omega)]; exact hb0
        have hz : M 0 = some ⟨cosT, o⟩ := by rw [qm 0 (by omega)]; exact hz0
        try simp only [r6_0, r6_1, r6_2, r6_3, r6_4, r6_5, r6_6, r6_7, r6_8, r6_9, r6_10, r6_11, r6_12, r6_13, r6_14, r6_15, r6_16, c6, F6, l6_1, q23, q3, q1, hb, rd_of hb, c2, go_sem, Int.reduceTMod, Int.reduceTDiv, Int.reduceDiv, Int.reduceMod, Int.reduceAdd, Int.reduceSub, Int.reduceMul, Int.reduceNeg, Int.reducePow, Int.reduceEq, ↓reduceIte, Nat.reduceEqDiff, Nat.reduceAdd, Nat.reduceMul, Nat.reduceLeDiff, Nat.reduceSub, Nat.reduceLT, Int.reduceToNat, Int.reduceLT, Int.reduceLE, reduceCtorEq]
        repeat' ((first | refine FK_split (fun h_ => ?_) (fun h_ => ?_) | refine GK_split (fun h_ => ?_) (fun h_ => ?_) | refine ite_both (fun h_ => ?_) (fun h_ => ?_)) <;> (try simp only [decide_eq_true_eq, decide_eq_false_iff_not, Bool.not_true, Bool.not_false, Bool.not_eq_true', Bool.not_eq_false', Bool.not_eq_eq_eq_not, Decidable.not_not] at h_) <;> (try simp only [r6_0, r6_1, r6_2, r6_3, r6_4, r6_5, r6_6, r6_7, r6_8, r6_9, r6_10, r6_11, r6_12, r6_13, r6_14, r6_15, r6_16, c6, F6, l6_1, q23, q3, q1, hb, rd_of hb, c2, h_, go_sem, Int.reduceTMod, Int.reduceTDiv, Int.reduceDiv, Int.reduceMod, Int.reduceAdd, Int.reduceSub, Int.reduceMul, Int.reduceNeg, Int.reducePow, Int.reduceEq, ↓reduceIte, Nat.reduceEqDiff, Nat.reduceAdd, Nat.reduceMul, Nat.reduceLeDiff, Nat.reduceSub, Nat.reduceLT, Int.reduceToNat, Int.reduceLT, Int.reduceLE, reduceCtorEq]))
        refine RK_callk ?_
        refine (w_Stroke (c := c) (h := h) (cap := (i : Int)) (o := false) hr1.frz (by omega) (by omega) (by rw [frz_at, hz]; rfl)).mono ?_
        intro r1 m1 n1 hq1
        obtain ⟨u1, rfl, p1, hp1, hO1⟩ := hq1.uni
        obtain ⟨M1, hM1⟩ : ∃ M1, M1 = unfrz M N m1 := ⟨_, rfl⟩
        obtain ⟨N1, hN1⟩ : ∃ N1, N1 = max N n1 := ⟨_, rfl⟩
        rw [← hM1, ← hN1]
        have hf1 : ∀ id, id < n + 2 → M1 id = M0 id := fun id hid => by rw [hM1, unfrz_at, if_pos (by omega)]; exact qm id hid
        have hA1 := hO1.keep (m' := M1) (n' := N1) (by omega) (fun id a b _ _ => by rw [hM1, unfrz_at, if_neg (by omega)])
        by_cases hk : kkOf (strokeI (plainL l c) c h i) (decide ((1 ≤ h ∧ h ≤ 32768) ∧ 0 ≤ (i : Int) ∧ (i : Int) ≤ 2) && l.all inP) = 0
        · obtain ⟨k1, k2, k3⟩ := kk_zero hk
          have h1 : 0 ≤ h := by rw [Bool.and_eq_true, decide_eq_true_eq] at k1; omega
          have hls : ∀ lp ∈ (strokeI (plainL l c) c h i).map (·.2), lp.length < 1000000 ∧ lp.all inP = true ∧ 0 ≤ windsTo lp q lp.length ∧ windsTo lp q lp.length ≤ 1 := fun lp hlp => by
            obtain ⟨x, hx, rfl⟩ := List.mem_map.1 hlp
            refine ⟨?_, stroke_ok c i x hx (List.all_eq_true.1 k2 x hx), stroke_winds h1 c i q x hx⟩
            exact stroke_mem (P := fun x => x.2.length < 1000000) (fun _ _ _ _ => by show 4 < 1000000; decide) (fun _ _ => by show 16 < 1000000; decide) (fun _ _ => by show 4 < 1000000; decide) (fun _ _ _ _ => by show 4 < 1000000; decide) (fun _ _ _ _ => by show 4 < 1000000; decide) c i x hx
          have hl2 := stroke_len h (plainL l c) c i
          have hl3 := plain_len l c
          have hll : ((strokeI (plainL l c) c h i).map (·.2)).length < 4294967296 := by rw [List.length_map]; omega
          rw [k3] at hA1
          rw [hk]
          clear hO1 hq1
          generalize (strokeI (plainL l c) c h i).map (·.2) = ls at *
          have hlA := hA1.len
          have hb5 : M1 (n + 1) = some ⟨[I q.x, I q.y], true⟩ := by rw [hf1 _ (by omega)]; exact hb1
          try simp only [r6_0, r6_1, r6_2, r6_3, r6_4, r6_5, r6_6, r6_7, r6_8, r6_9, r6_10, r6_11, r6_12, r6_13, r6_14, r6_15, r6_16, c6, F6, hlA, go_sem, Int.reduceTMod, Int.reduceTDiv, Int.reduceDiv, Int.reduceMod, Int.reduceAdd, Int.reduceSub, Int.reduceMul, Int.reduceNeg, Int.reducePow, Int.reduceEq, ↓reduceIte, Nat.reduceEqDiff, Nat.reduceAdd, Nat.reduceMul, Nat.reduceLeDiff, Nat.reduceSub, Nat.reduceLT, Int.reduceToNat, Int.reduceLT, Int.reduceLE, reduceCtorEq]
          repeat' ((first | refine FK_split (fun h_ => ?_) (fun h_ => ?_) | refine GK_split (fun h_ => ?_) (fun h_ => ?_) | refine ite_both (fun h_ => ?_) (fun h_ => ?_)) <;> (try simp only [decide_eq_true_eq, decide_eq_false_iff_not, Bool.not_true, Bool.not_false, Bool.not_eq_true', Bool.not_eq_false', Bool.not_eq_eq_eq_not, Decidable.not_not] at h_) <;> (try simp only [r6_0, r6_1, r6_2, r6_3, r6_4, r6_5, r6_6, r6_7, r6_8, r6_9, r6_10, r6_11, r6_12, r6_13, r6_14, r6_15, r6_16, c6, F6, hlA, h_, go_sem, Int.reduceTMod, Int.reduceTDiv, Int.reduceDiv, Int.reduceMod, Int.reduceAdd, Int.reduceSub, Int.reduceMul, Int.reduceNeg, Int.reducePow, Int.reduceEq, ↓reduceIte, Nat.reduceEqDiff, Nat.reduceAdd, Nat.reduceMul, Nat.reduceLeDiff, Nat.reduceSub, Nat.reduceLT, Int.reduceToNat, Int.reduceLT, Int.reduceLE, reduceCtorEq]))
          refine XK_iter (inv := fun j s => s.e 37 = RI j ∧ s.e 36 = RI ls.length ∧ s.e 35 = u1 ∧ s.e 23 = RI i ∧ s.e 3 = .one (.ptr n 0) ∧ s.e 5 = .one (.ptr (n + 1) 0) ∧ s.e 1 = RI h ∧ s.m = M1 ∧ s.n = N1) ls.length
            (fun L _ => ⟨fun j hj s hs' next2 => ?_, fun s hs' => ?_⟩) 0 (by omega) _ ⟨?_, ?_, ?_, ?_, ?_, ?_, ?_, rfl, rfl⟩
          · obtain ⟨e, M2, N2⟩ := s
            obtain ⟨p37, p36, p35, p23, p3, p5, p1, pm, pn⟩ := hs'
            simp only at p37 p36 p35 p23 p3 p5 p1 pm pn
            subst pm
            subst pn
            have hp2 : ls[j]? = some ls[j] := List.getElem?_eq_getElem hj
            obtain ⟨id, b, d, hro, hid, hbb, hc, hrc⟩ := hA1.at hp2
            obtain ⟨g1, g2, g3, g4⟩ := hls ls[j] (List.getElem_mem hj)
            have d2 : ((j : Int) < (ls.length : Int)) = True := eq_true (by omega)
            have d3 : (0 ≤ (j : Int)) = True := eq_true (by omega)
            have d7 : IntKind.i64.wrap ((j : Int) + 1) = ((j + 1 : Nat) : Int) := wr_nat (by omega)
            generalize ls[j] = lp at *
            have vw := v_Winds (.one d) lp q (frz M2) N2 hrc.frz g1 g2 hq2
            have e1 : (windsTo lp q lp.length < 0) = False := eq_false (by omega)
            have e2 : (1 < windsTo lp q lp.length) = False := eq_false (by omega)
            rw [hro] at p35
            try simp only [r6_0, r6_1, r6_2, r6_3, r6_4, r6_5, r6_6, r6_7, r6_8, r6_9, r6_10, r6_11, r6_12, r6_13, r6_14, r6_15, r6_16, c6, F6, l6_0, p37, p36, p35, p5, d2, d3, d7, hbb, hc, hb5, rd_of hb5, vw, e1, e2, Int.toNat_natCast, Nat.mul_one, Nat.zero_add, go_sem, Int.reduceTMod, Int.reduceTDiv, Int.reduceDiv, Int.reduceMod, Int.reduceAdd, Int.reduceSub, Int.reduceMul, Int.reduceNeg, Int.reducePow, Int.reduceEq, ↓reduceIte, Nat.reduceEqDiff, Nat.reduceAdd, Nat.reduceMul, Nat.reduceLeDiff, Nat.reduceSub, Nat.reduceLT, Int.reduceToNat, Int.reduceLT, Int.reduceLE, reduceCtorEq]
            repeat' ((first | refine FK_split (fun h_ => ?_) (fun h_ => ?_) | refine GK_split (fun h_ => ?_) (fun h_ => ?_) | refine ite_both (fun h_ => ?_) (fun h_ => ?_)) <;> (try simp only [decide_eq_true_eq, decide_eq_false_iff_not, Bool.not_true, Bool.not_false, Bool.not_eq_true', Bool.not_eq_false', Bool.not_eq_eq_eq_not, Decidable.not_not] at h_) <;> (try simp only [r6_0, r6_1, r6_2, r6_3, r6_4, r6_5, r6_6, r6_7, r6_8, r6_9, r6_10, r6_11, r6_12, r6_13, r6_14, r6_15, r6_16, c6, F6, l6_0, p37, p36, p35, p5, d2, d3, d7, hbb, hc, hb5, rd_of hb5, vw, e1, e2, Int.toNat_natCast, Nat.mul_one, Nat.zero_add, h_, go_sem, Int.reduceTMod, Int.reduceTDiv, Int.reduceDiv, Int.reduceMod, Int.reduceAdd, Int.reduceSub, Int.reduceMul, Int.reduceNeg, Int.reducePow, Int.reduceEq, ↓reduceIte, Nat.reduceEqDiff, Nat.reduceAdd, Nat.reduceMul, Nat.reduceLeDiff, Nat.reduceSub, Nat.reduceLT, Int.reduceToNat, Int.reduceLT, Int.reduceLE, reduceCtorEq]))
            refine next2 _ ⟨?_, ?_, ?_, ?_, ?_, ?_, ?_, rfl, rfl⟩
            · simp only [go_sem, Int.reduceTMod, Int.reduceTDiv, Int.reduceDiv, Int.reduceMod, Int.reduceAdd, Int.reduceSub, Int.reduceMul, Int.reduceNeg, Int.reducePow, Int.reduceEq, ↓reduceIte, Nat.reduceEqDiff, Nat.reduceAdd, Nat.reduceMul, Nat.reduceLeDiff, Nat.reduceSub, Nat.reduceLT, Int.reduceToNat, Int.reduceLT, Int.reduceLE, reduceCtorEq]
            · simp only [p36, go_sem, Int.reduceTMod, Int.reduceTDiv, Int.reduceDiv, Int.reduceMod, Int.reduceAdd, Int.reduceSub, Int.reduceMul, Int.reduceNeg, Int.reducePow, Int.reduceEq, ↓reduceIte, Nat.reduceEqDiff, Nat.reduceAdd, Nat.reduceMul, Nat.reduceLeDiff, Nat.reduceSub, Nat.reduceLT, Int.reduceToNat, Int.reduceLT, Int.reduceLE, reduceCtorEq]
            · simp only [p35, hro, go_sem, Int.reduceTMod, Int.reduceTDiv, Int.reduceDiv, Int.reduceMod, Int.reduceAdd, Int.reduceSub, Int.reduceMul, Int.reduceNeg, Int.reducePow, Int.reduceEq, ↓reduceIte, Nat.reduceEqDiff, Nat.reduceAdd, Nat.reduceMul, Nat.reduceLeDiff, Nat.reduceSub, Nat.reduceLT, Int.reduceToNat, Int.reduceLT, Int.reduceLE, reduceCtorEq]
            · simp only [p23, go_sem, Int.reduceTMod, Int.reduceTDiv, Int.reduceDiv, Int.reduceMod, Int.reduceAdd, Int.reduceSub, Int.reduceMul, Int.reduceNeg, Int.reducePow, Int.reduceEq, ↓reduceIte, Nat.reduceEqDiff, Nat.reduceAdd, Nat.reduceMul, Nat.reduceLeDiff, Nat.reduceSub, Nat.reduceLT, Int.reduceToNat, Int.reduceLT, Int.reduceLE, reduceCtorEq]
            · simp only [p3, go_sem, Int.reduceTMod, Int.reduceTDiv, Int.reduceDiv, Int.reduceMod, Int.reduceAdd, Int.reduceSub, Int.reduceMul, Int.reduceNeg, Int.reducePow, Int.reduceEq, ↓reduceIte, Nat.reduceEqDiff, Nat.reduceAdd, Nat.reduceMul, Nat.reduceLeDiff, Nat.reduceSub, Nat.reduceLT, Int.reduceToNat, Int.reduceLT, Int.reduceLE, reduceCtorEq]
            · simp only [p5, go_sem, Int.reduceTMod, Int.reduceTDiv, Int.reduceDiv, Int.reduceMod, Int.reduceAdd, Int.reduceSub, Int.reduceMul, Int.reduceNeg, Int.reducePow, Int.reduceEq, ↓reduceIte, Nat.reduceEqDiff, Nat.reduceAdd, Nat.reduceMul, Nat.reduceLeDiff, Nat.reduceSub, Nat.reduceLT, Int.reduceToNat, Int.reduceLT, Int.reduceLE, reduceCtorEq]
            · simp only [p1, go_sem, Int.reduceTMod, Int.reduceTDiv, Int.reduceDiv, Int.reduceMod, Int.reduceAdd, Int.reduceSub, Int.reduceMul, Int.reduceNeg, Int.reducePow, Int.reduceEq, ↓reduceIte, Nat.reduceEqDiff, Nat.reduceAdd, Nat.reduceMul, Nat.reduceLeDiff, Nat.reduceSub, Nat.reduceLT, Int.reduceToNat, Int.reduceLT, Int.reduceLE, reduceCtorEq]
          · obtain ⟨e, M2, N2⟩ := s
            obtain ⟨p37, p36, p35, p23, p3, p5, p1, pm, pn⟩ := hs'
            simp only at p37 p36 p35 p23 p3 p5 p1 pm pn
            have d2 : ((ls.length : Int) < (ls.length : Int)) = False := eq_false (by omega)
            try simp only [r6_0, r6_1, r6_2, r6_3, r6_4, r6_5, r6_6, r6_7, r6_8, r6_9, r6_10, r6_11, r6_12, r6_13, r6_14, r6_15, r6_16, c6, F6, l6_0, p37, p36, d2, p23, c7, go_sem, Int.reduceTMod, Int.reduceTDiv, Int.reduceDiv, Int.reduceMod, Int.reduceAdd, Int.reduceSub, Int.reduceMul, Int.reduceNeg, Int.reducePow, Int.reduceEq, ↓reduceIte, Nat.reduceEqDiff, Nat.reduceAdd, Nat.reduceMul, Nat.reduceLeDiff, Nat.reduceSub, Nat.reduceLT, Int.reduceToNat, Int.reduceLT, Int.reduceLE, reduceCtorEq]
            repeat' ((first | refine FK_split (fun h_ => ?_) (fun h_ => ?_) | refine GK_split (fun h_ => ?_) (fun h_ => ?_) | refine ite_both (fun h_ => ?_) (fun h_ => ?_)) <;> (try simp only [decide_eq_true_eq, decide_eq_false_iff_not, Bool.not_true, Bool.not_false, Bool.not_eq_true', Bool.not_eq_false', Bool.not_eq_eq_eq_not, Decidable.not_not] at h_) <;> (try simp only [r6_0, r6_1, r6_2, r6_3, r6_4, r6_5, r6_6, r6_7, r6_8, r6_9, r6_10, r6_11, r6_12, r6_13, r6_14, r6_15, r6_16, c6, F6, l6_0, p37, p36, d2, p23, c7, h_, go_sem, Int.reduceTMod, Int.reduceTDiv, Int.reduceDiv, Int.reduceMod, Int.reduceAdd, Int.reduceSub, Int.reduceMul, Int.reduceNeg, Int.reducePow, Int.reduceEq, ↓reduceIte, Nat.reduceEqDiff, Nat.reduceAdd, Nat.reduceMul, Nat.reduceLeDiff, Nat.reduceSub, Nat.reduceLT, Int.reduceToNat, Int.reduceLT, Int.reduceLE, reduceCtorEq]))
            refine next _ ⟨?_, ?_, ?_, ?_, ?_, fun id hid => ?_⟩
            · simp only [go_sem, Int.reduceTMod, Int.reduceTDiv, Int.reduceDiv, Int.reduceMod, Int.reduceAdd, Int.reduceSub, Int.reduceMul, Int.reduceNeg, Int.reducePow, Int.reduceEq, ↓reduceIte, Nat.reduceEqDiff, Nat.reduceAdd, Nat.reduceMul, Nat.reduceLeDiff, Nat.reduceSub, Nat.reduceLT, Int.reduceToNat, Int.reduceLT, Int.reduceLE, reduceCtorEq]
            · simp only [p3, go_sem, Int.reduceTMod, Int.reduceTDiv, Int.reduceDiv, Int.reduceMod, Int.reduceAdd, Int.reduceSub, Int.reduceMul, Int.reduceNeg, Int.reducePow, Int.reduceEq, ↓reduceIte, Nat.reduceEqDiff, Nat.reduceAdd, Nat.reduceMul, Nat.reduceLeDiff, Nat.reduceSub, Nat.reduceLT, Int.reduceToNat, Int.reduceLT, Int.reduceLE, reduceCtorEq]
            · simp only [p5, go_sem, Int.reduceTMod, Int.reduceTDiv, Int.reduceDiv, Int.reduceMod, Int.reduceAdd, Int.reduceSub, Int.reduceMul, Int.reduceNeg, Int.reducePow, Int.reduceEq, ↓reduceIte, Nat.reduceEqDiff, Nat.reduceAdd, Nat.reduceMul, Nat.reduceLeDiff, Nat.reduceSub, Nat.reduceLT, Int.reduceToNat, Int.reduceLT, Int.reduceLE, reduceCtorEq]
            · simp only [p1, go_sem, Int.reduceTMod, Int.reduceTDiv, Int.reduceDiv, Int.reduceMod, Int.reduceAdd, Int.reduceSub, Int.reduceMul, Int.reduceNeg, Int.reducePow, Int.reduceEq, ↓reduceIte, Nat.reduceEqDiff, Nat.reduceAdd, Nat.reduceMul, Nat.reduceLeDiff, Nat.reduceSub, Nat.reduceLT, Int.reduceToNat, Int.reduceLT, Int.reduceLE, reduceCtorEq]
            · simp only [go_sem, Int.reduceTMod, Int.reduceTDiv, Int.reduceDiv, Int.reduceMod, Int.reduceAdd, Int.reduceSub, Int.reduceMul, Int.reduceNeg, Int.reducePow, Int.reduceEq, ↓reduceIte, Nat.reduceEqDiff, Nat.reduceAdd, Nat.reduceMul, Nat.reduceLeDiff, Nat.reduceSub, Nat.reduceLT, Int.reduceToNat, Int.reduceLT, Int.reduceLE, reduceCtorEq]
              omega
            · simp only
              rw [pm]
              exact hf1 id hid
          · simp only [go_sem, Int.reduceTMod, Int.reduceTDiv, Int.reduceDiv, Int.reduceMod, Int.reduceAdd, Int.reduceSub, Int.reduceMul, Int.reduceNeg, Int.reducePow, Int.reduceEq, ↓reduceIte, Nat.reduceEqDiff, Nat.reduceAdd, Nat.reduceMul, Nat.reduceLeDiff, Nat.reduceSub, Nat.reduceLT, Int.reduceToNat, Int.reduceLT, Int.reduceLE, reduceCtorEq]
          · simp only [go_sem, Int.reduceTMod, Int.reduceTDiv, Int.reduceDiv, Int.reduceMod, Int.reduceAdd, Int.reduceSub, Int.reduceMul, Int.reduceNeg, Int.reducePow, Int.reduceEq, ↓reduceIte, Nat.reduceEqDiff, Nat.reduceAdd, Nat.reduceMul, Nat.reduceLeDiff, Nat.reduceSub, Nat.reduceLT, Int.reduceToNat, Int.reduceLT, Int.reduceLE, reduceCtorEq]
          · simp only [go_sem, Int.reduceTMod, Int.reduceTDiv, Int.reduceDiv, Int.reduceMod, Int.reduceAdd, Int.reduceSub, Int.reduceMul, Int.reduceNeg, Int.reducePow, Int.reduceEq, ↓reduceIte, Nat.reduceEqDiff, Nat.reduceAdd, Nat.reduceMul, Nat.reduceLeDiff, Nat.reduceSub, Nat.reduceLT, Int.reduceToNat, Int.reduceLT, Int.reduceLE, reduceCtorEq]
          · simp only [q23, go_sem, Int.reduceTMod, Int.reduceTDiv, Int.reduceDiv, Int.reduceMod, Int.reduceAdd, Int.reduceSub, Int.reduceMul, Int.reduceNeg, Int.reducePow, Int.reduceEq, ↓reduceIte, Nat.reduceEqDiff, Nat.reduceAdd, Nat.reduceMul, Nat.reduceLeDiff, Nat.reduceSub, Nat.reduceLT, Int.reduceToNat, Int.reduceLT, Int.reduceLE, reduceCtorEq]
          · simp only [q3, go_sem, Int.reduceTMod, Int.reduceTDiv, Int.reduceDiv, Int.reduceMod, Int.reduceAdd, Int.reduceSub, Int.reduceMul, Int.reduceNeg, Int.reducePow, Int.reduceEq, ↓reduceIte, Nat.reduceEqDiff, Nat.reduceAdd, Nat.reduceMul, Nat.reduceLeDiff, Nat.reduceSub, Nat.reduceLT, Int.reduceToNat, Int.reduceLT, Int.reduceLE, reduceCtorEq]
          · simp only [q5, go_sem, Int.reduceTMod, Int.reduceTDiv, Int.reduceDiv, Int.reduceMod, Int.reduceAdd, Int.reduceSub, Int.reduceMul, Int.reduceNeg, Int.reducePow, Int.reduceEq, ↓reduceIte, Nat.reduceEqDiff, Nat.reduceAdd, Nat.reduceMul, Nat.reduceLeDiff, Nat.reduceSub, Nat.reduceLT, Int.reduceToNat, Int.reduceLT, Int.reduceLE, reduceCtorEq]
          · simp only [q1, go_sem, Int.reduceTMod, Int.reduceTDiv, Int.reduceDiv, Int.reduceMod, Int.reduceAdd, Int.reduceSub, Int.reduceMul, Int.reduceNeg, Int.reducePow, Int.reduceEq, ↓reduceIte, Nat.reduceEqDiff, Nat.reduceAdd, Nat.reduceMul, Nat.reduceLeDiff, Nat.reduceSub, Nat.reduceLT, Int.reduceToNat, Int.reduceLT, Int.reduceLE, reduceCtorEq]
        · skip
          try simp only [r6_0, r6_1, r6_2, r6_3, r6_4, r6_5, r6_6, r6_7, r6_8, r6_9, r6_10, r6_11, r6_12, r6_13, r6_14, r6_15, r6_16, c6, F6, hk, q23, c7, go_sem, Int.reduceTMod, Int.reduceTDiv, Int.reduceDiv, Int.reduceMod, Int.reduceAdd, Int.reduceSub, Int.reduceMul, Int.reduceNeg, Int.reducePow, Int.reduceEq, ↓reduceIte, Nat.reduceEqDiff, Nat.reduceAdd, Nat.reduceMul, Nat.reduceLeDiff, Nat.reduceSub, Nat.reduceLT, Int.reduceToNat, Int.reduceLT, Int.reduceLE, reduceCtorEq]
          repeat' ((first | refine FK_split (fun h_ => ?_) (fun h_ => ?_) | refine GK_split (fun h_ => ?_) (fun h_ => ?_) | refine ite_both (fun h_ => ?_) (fun h_ => ?_)) <;> (try simp only [decide_eq_true_eq, decide_eq_false_iff_not, Bool.not_true, Bool.not_false, Bool.not_eq_true', Bool.not_eq_false', Bool.not_eq_eq_eq_not, Decidable.not_not] at h_) <;> (try simp only [r6_0, r6_1, r6_2, r6_3, r6_4, r6_5, r6_6, r6_7, r6_8, r6_9, r6_10, r6_11, r6_12, r6_13, r6_14, r6_15, r6_16, c6, F6, hk, q23, c7, h_, go_sem, Int.reduceTMod, Int.reduceTDiv, Int.reduceDiv, Int.reduceMod, Int.reduceAdd, Int.reduceSub, Int.reduceMul, Int.reduceNeg, Int.reducePow, Int.reduceEq, ↓reduceIte, Nat.reduceEqDiff, Nat.reduceAdd, Nat.reduceMul, Nat.reduceLeDiff, Nat.reduceSub, Nat.reduceLT, Int.reduceToNat, Int.reduceLT, Int.reduceLE, reduceCtorEq]))
          refine next _ ⟨?_, ?_, ?_, ?_, ?_, fun id hid => ?_⟩
          · simp only [go_sem, Int.reduceTMod, Int.reduceTDiv, Int.reduceDiv, Int.reduceMod, Int.reduceAdd, Int.reduceSub, Int.reduceMul, Int.reduceNeg, Int.reducePow, Int.reduceEq, ↓reduceIte, Nat.reduceEqDiff, Nat.reduceAdd, Nat.reduceMul, Nat.reduceLeDiff, Nat.reduceSub, Nat.reduceLT, Int.reduceToNat, Int.reduceLT, Int.reduceLE, reduceCtorEq]
          · simp only [q3, go_sem, Int.reduceTMod, Int.reduceTDiv, Int.reduceDiv, Int.reduceMod, Int.reduceAdd, Int.reduceSub, Int.reduceMul, Int.reduceNeg, Int.reducePow, Int.reduceEq, ↓reduceIte, Nat.reduceEqDiff, Nat.reduceAdd, Nat.reduceMul, Nat.reduceLeDiff, Nat.reduceSub, Nat.reduceLT, Int.reduceToNat, Int.reduceLT, Int.reduceLE, reduceCtorEq]
          · simp only [q5, go_sem, Int.reduceTMod, Int.reduceTDiv, Int.reduceDiv, Int.reduceMod, Int.reduceAdd, Int.reduceSub, Int.reduceMul, Int.reduceNeg, Int.reducePow, Int.reduceEq, ↓reduceIte, Nat.reduceEqDiff, Nat.reduceAdd, Nat.reduceMul, Nat.reduceLeDiff, Nat.reduceSub, Nat.reduceLT, Int.reduceToNat, Int.reduceLT, Int.reduceLE, reduceCtorEq]
          · simp only [q1, go_sem, Int.reduceTMod, Int.reduceTDiv, Int.reduceDiv, Int.reduceMod, Int.reduceAdd, Int.reduceSub, Int.reduceMul, Int.reduceNeg, Int.reducePow, Int.reduceEq, ↓reduceIte, Nat.reduceEqDiff, Nat.reduceAdd, Nat.reduceMul, Nat.reduceLeDiff, Nat.reduceSub, Nat.reduceLT, Int.reduceToNat, Int.reduceLT, Int.reduceLE, reduceCtorEq]
          · simp only [go_sem, Int.reduceTMod, Int.reduceTDiv, Int.reduceDiv, Int.reduceMod, Int.reduceAdd, Int.reduceSub, Int.reduceMul, Int.reduceNeg, Int.reducePow, Int.reduceEq, ↓reduceIte, Nat.reduceEqDiff, Nat.reduceAdd, Nat.reduceMul, Nat.reduceLeDiff, Nat.reduceSub, Nat.reduceLT, Int.reduceToNat, Int.reduceLT, Int.reduceLE, reduceCtorEq]
            omega
          · exact hf1 id hid
      · obtain ⟨e, M, N⟩ := s
        obtain ⟨q23, q3, q5, q1, qn, qm⟩ := hs'
        simp only at q23 q3 q5 q1 qn qm
        try simp only [r6_0, r6_1, r6_2, r6_3, r6_4, r6_5, r6_6, r6_7, r6_8, r6_9, r6_10, r6_11, r6_12, r6_13, r6_14, r6_15, r6_16, c6, F6, l6_1, q23, v_awake07, go_sem, Int.reduceTMod, Int.reduceTDiv, Int.reduceDiv, Int.reduceMod, Int.reduceAdd, Int.reduceSub, Int.reduceMul, Int.reduceNeg, Int.reducePow, Int.reduceEq, ↓reduceIte, Nat.reduceEqDiff, Nat.reduceAdd, Nat.reduceMul, Nat.reduceLeDiff, Nat.reduceSub, Nat.reduceLT, Int.reduceToNat, Int.reduceLT, Int.reduceLE, reduceCtorEq]
        repeat' ((first | refine FK_split (fun h_ => ?_) (fun h_ => ?_) | refine GK_split (fun h_ => ?_) (fun h_ => ?_) | refine ite_both (fun h_ => ?_) (fun h_ => ?_)) <;> (try simp only [decide_eq_true_eq, decide_eq_false_iff_not, Bool.not_true, Bool.not_false, Bool.not_eq_true', Bool.not_eq_false', Bool.not_eq_eq_eq_not, Decidable.not_not] at h_) <;> (try simp only [r6_0, r6_1, r6_2, r6_3, r6_4, r6_5, r6_6, r6_7, r6_8, r6_9, r6_10, r6_11, r6_12, r6_13, r6_14, r6_15, r6_16, c6, F6, l6_1, q23, v_awake07, h_, go_sem, Int.reduceTMod, Int.reduceTDiv, Int.reduceDiv, Int.reduceMod, Int.reduceAdd, Int.reduceSub, Int.reduceMul, Int.reduceNeg, Int.reducePow, Int.reduceEq, ↓reduceIte, Nat.reduceEqDiff, Nat.reduceAdd, Nat.reduceMul, Nat.reduceLeDiff, Nat.reduceSub, Nat.reduceLT, Int.reduceToNat, Int.reduceLT, Int.reduceLE, reduceCtorEq]))
      · simp only [go_sem, Int.reduceTMod, Int.reduceTDiv, Int.reduceDiv, Int.reduceMod, Int.reduceAdd, Int.reduceSub, Int.reduceMul, Int.reduceNeg, Int.reducePow, Int.reduceEq, ↓reduceIte, Nat.reduceEqDiff, Nat.reduceAdd, Nat.reduceMul, Nat.reduceLeDiff, Nat.reduceSub, Nat.reduceLT, Int.reduceToNat, Int.reduceLT, Int.reduceLE, reduceCtorEq]
      · simp only [go_sem, Int.reduceTMod, Int.reduceTDiv, Int.reduceDiv, Int.reduceMod, Int.reduceAdd, Int.reduceSub, Int.reduceMul, Int.reduceNeg, Int.reducePow, Int.reduceEq, ↓reduceIte, Nat.reduceEqDiff, Nat.reduceAdd, Nat.reduceMul, Nat.reduceLeDiff, Nat.reduceSub, Nat.reduceLT, Int.reduceToNat, Int.reduceLT, Int.reduceLE, reduceCtorEq]
      · simp only [go_sem, Int.reduceTMod, Int.reduceTDiv, Int.reduceDiv, Int.reduceMod, Int.reduceAdd, Int.reduceSub, Int.reduceMul, Int.reduceNeg, Int.reducePow, Int.reduceEq, ↓reduceIte, Nat.reduceEqDiff, Nat.reduceAdd, Nat.reduceMul, Nat.reduceLeDiff, Nat.reduceSub, Nat.reduceLT, Int.reduceToNat, Int.reduceLT, Int.reduceLE, reduceCtorEq]
      · simp only [go_sem, Int.reduceTMod, Int.reduceTDiv, Int.reduceDiv, Int.reduceMod, Int.reduceAdd, Int.reduceSub, Int.reduceMul, Int.reduceNeg, Int.reducePow, Int.reduceEq, ↓reduceIte, Nat.reduceEqDiff, Nat.reduceAdd, Nat.reduceMul, Nat.reduceLeDiff, Nat.reduceSub, Nat.reduceLT, Int.reduceToNat, Int.reduceLT, Int.reduceLE, reduceCtorEq]

/- Arguments that are structs with slices in them, opened for the evaluator. Conditions: those that each theorem names. -/
open Go.RowKit Go.ChangeShapes Go.WideShapes Go.Deep
set_option linter.unusedVariables false

/-- What a cell holds that is a slice of flat elements. -/
def SlOk (w : World) (ks : List CK) (v : Value) : Prop :=
  v = .slice none 0 0 ∨ ∃ b o len cap vs, v = .slice (some ⟨b, o, none⟩) len cap ∧ b < w.heap.size ∧ len ≤ cap ∧ cap ≤ maxLen ∧ RowsOk ks cap vs ∧ ∀ (i : Nat) (x : Value), vs[i]? = some x → w.cell? ⟨b, o + i, none⟩ = some x

/-- A struct all of whose fields take one cell. -/
theorem arg_mix {P : Program} {T : TypeId} {fs : Array Field} {ts : List TypeId} (ht : P.underlying T = some (.struct fs)) (hts : P.cellTypes P.depth T = some ts) {H : Type} {enc : TypeId × Value → H} {w : World} {base base' : Nat} {held : Bool} {v : Value} {d : DataW H} {ps : List MemPlace}
    (hv : Value.okWide P w .any base' T v) (h : DataW.Trod enc P w base (fun _ => true) held T v d ps) :
    ∃ cs : List Value, v = .agg cs.toArray ∧ cs.length = P.cellsOf T ∧ ∀ (j : Nat) (f : Field) (c : Value), fs[j]? = some f → P.cellsOf f.type = 1 → (∀ u, ts[f.offset % ts.length]? = some u → u = f.type) → cs[f.offset]? = some c →
      Cell.okWide P w .any base' f.type c ∧ ∃ x fuel, DataW.trod enc P w base (fun _ => true) held fuel f.type [c] = some x := by
  simp only [Value.okWide, ht] at hv
  obtain ⟨cs, rfl, hsz, ts', h1, h2, h3⟩ := hv
  obtain rfl := Option.some.inj (hts.symm.trans h1)
  obtain ⟨fuel, hf⟩ := h
  have hf' : DataW.trod enc P w base (fun _ => true) held fuel T cs.toList = some (d, ps) := hf
  obtain ⟨xs, n, _, _, hl, hxs, hg⟩ := DataW.trod_struct ht hf'
  refine ⟨cs.toList, by simp, by simpa using hsz, fun j f c hj hc1 hu hc => ?_⟩
  obtain ⟨u, hu1, hu2⟩ := h3 f.offset c (by simpa using hc)
  have e := hu u hu1
  subst e
  refine ⟨hu2, ?_⟩
  have h4 := hg j f hj
  rw [hc1] at h4
  have h5 : (cs.toList.drop f.offset).take 1 = [c] := by
    have hlt := (List.getElem?_eq_some_iff.1 hc).1
    rw [List.drop_eq_getElem_cons hlt]
    have := (List.getElem?_eq_some_iff.1 hc).2
    simp [this]
  rw [h5] at h4
  have hjn : j < xs.length := by
    have := (Array.getElem?_eq_some_iff.1 hj).1
    omega
  rw [List.getElem?_eq_getElem hjn] at h4
  exact ⟨_, n, h4⟩

theorem mix_slice {P : Program} {T e : TypeId} {ks : List CK} {k : Nat} (ht : P.underlying T = some (.slice e)) (hk : kindsK P k e = some ks) (hc : P.cellsOf e = ks.length) (h0 : ks.length ≠ 0) {H : Type} {enc : TypeId × Value → H} {w : World} {base base' : Nat} {held : Bool} {c : Value}
    (h : Cell.okWide P w .any base' T c ∧ ∃ x fuel, DataW.trod enc P w base (fun _ => true) held fuel T [c] = some x) : SlOk w ks c := by
  obtain ⟨hv, ⟨d, ps⟩, fuel, hf⟩ := h
  have hv2 : Value.okWide P w .any base' T c := by simp only [Value.okWide, ht]; exact hv
  obtain ⟨a, len, cap, rfl⟩ := okWide_slice ht hv2
  exact arg_slice ht hk hc h0 hv2 ⟨fuel, hf⟩
theorem mix_int {P : Program} {T : TypeId} {k : IntKind} (ht : P.underlying T = some (.int k)) {H : Type} {enc : TypeId × Value → H} {w : World} {base base' : Nat} {held : Bool} {c : Value}
    (h : Cell.okWide P w .any base' T c ∧ ∃ x fuel, DataW.trod enc P w base (fun _ => true) held fuel T [c] = some x) : ∃ n, c = .int k n ∧ k.min ≤ n ∧ n ≤ k.max := by
  obtain ⟨hv, x, fuel, hf⟩ := h
  obtain ⟨n, e, _, hw⟩ := DataW.trod_int ht hf
  obtain rfl := (List.cons.inj e).1
  exact ⟨n, rfl, has_of_wf hw⟩
theorem mix_bool {P : Program} {T : TypeId} (ht : P.underlying T = some .bool) {H : Type} {enc : TypeId × Value → H} {w : World} {base base' : Nat} {held : Bool} {c : Value}
    (h : Cell.okWide P w .any base' T c ∧ ∃ x fuel, DataW.trod enc P w base (fun _ => true) held fuel T [c] = some x) : ∃ b, c = .bool b := by
  obtain ⟨hv, x, fuel, hf⟩ := h
  obtain ⟨b, e, _⟩ := DataW.trod_bool ht hf
  obtain rfl := (List.cons.inj e).1
  exact ⟨b, rfl⟩

/-- A slice cell, laid into the evaluator's memory under the number n. -/
theorem mix_lay {ρ : Loc} {n : Nat} {w : World} {m : Mem} (hm : MRel ρ n w m) (hh : Held m) {ks : List CK} {v : Value} (h : SlOk w ks v) :
    ∃ (ρ' : Loc) (n' : Nat) (m' : Mem) (c : Cell), MRel ρ' n' w m' ∧ Held m' ∧ Le ρ n w ρ' n' w ∧ CRel ρ' n' w c v ∧ (∀ id, id < n → m' id = m id) ∧ n' = n + 1 ∧
      ((c = .sc (.slice none 0 0) ∧ v = .slice none 0 0) ∨ ∃ len cap vs, c = .sl n 0 len none ks.length ∧ len ≤ cap ∧ cap ≤ maxLen ∧ RowsOk ks cap vs ∧ m' n = some ⟨vs.map .sc, false⟩) := by
  rcases h with rfl | ⟨b, o, len, cap, vs, rfl, hb, hl, hm2, hr, hc⟩
  · have hmm : MRel ρ (n + 1) w m := by
      refine ⟨fun id bl h => by have := hm.lt id bl h; omega, hm.blk, fun id bl h i c hi => ?_, hm.soft, hm.apart⟩
      obtain ⟨x, h1, h2⟩ := hm.cells id bl h i c hi
      exact ⟨x, h1, CRel.mono ⟨by omega, fun _ _ => rfl, fun _ h => h⟩ _ _ h2⟩
    exact ⟨ρ, n + 1, m, .sc (.slice none 0 0), hmm, hh, ⟨by omega, fun _ _ => rfl, fun _ h => h⟩, by simp [CRel, Value.oneCell'], fun _ _ => rfl, rfl, Or.inl ⟨rfl, rfl⟩⟩
  · have hlen : vs.length = cap * ks.length := by
      have := hr.len
      simpa using this
    have hs := addSl (ρ := ρ) (n := n) (w := w) (len := len) (sz := ks.length) hl hlen hc
    exact ⟨atL ρ n b o, n + 1, _, .sl n 0 len none ks.length, addRow hm hh hb hr hc, held_upd hh n _, atL_le, hs, fun id hid => upd_ne _ _ (by omega), rfl, Or.inr ⟨len, cap, vs, rfl, hl, hm2, hr, upd_same _ _ _⟩⟩

/- Subpaths as_ arguments; the rows of the laws over pens. Conditions: those that each theorem names. -/
open Go Go.Proofs
open Go.RowKit Go.ChangeShapes Go.WideShapes Go.Deep
set_option linter.unusedVariables false

theorem pts_of {cap : Nat} {vs : List Value} (h : RowsOk [.int .i64, .int .i64] cap vs) : ∃ l : List Pt, l.length = cap ∧ vs.map .sc = l.flatMap Pt.cs := by
  unfold RowsOk at h
  induction cap generalizing vs with
  | zero => simp only [List.replicate_zero, List.flatten_nil, CksOk] at h; subst h; exact ⟨[], rfl, rfl⟩
  | succ k ih =>
    rw [List.replicate_succ, List.flatten_cons] at h
    simp only [List.cons_append, List.nil_append, CksOk] at h
    obtain ⟨x, r, rfl, h1, y, r', rfl, h2, h3⟩ := h
    obtain ⟨l, e1, e2⟩ := ih h3
    exact ⟨⟨x, y⟩ :: l, by simp [e1], by simp [e2, Pt.cs]⟩
/-- A slice of points, laid: it is read. -/
theorem pts_rl {m : Mem} {n : Nat} {c : Cell} {v : Value} (h : (c = .sc (.slice none 0 0) ∧ v = .slice none 0 0) ∨ ∃ len cap vs, c = .sl n 0 len none [CK.int .i64, CK.int .i64].length ∧ len ≤ cap ∧ cap ≤ maxLen ∧ RowsOk [.int .i64, .int .i64] cap vs ∧ m n = some ⟨vs.map .sc, false⟩) :
    ∃ l : List Pt, RPt m (n + 1) (.one c) l := by
  rcases h with ⟨rfl, _⟩ | ⟨len, cap, vs, rfl, h1, _, h2, h3⟩
  · exact ⟨[], Or.inl ⟨rfl, rfl⟩⟩
  · obtain ⟨l, e1, e2⟩ := pts_of h2
    have hlen : (l.take len).length = len := by rw [List.length_take]; omega
    refine ⟨l.take len, Or.inr ⟨n, 0, none, by rw [hlen]; rfl, by omega, ?_⟩⟩
    rw [rd_of h3, hlen, e2]
    have e4 : (l.flatMap Pt.cs).length = cap * 2 := by rw [flatMap_len Pt.cs 2 cs2, e1]
    unfold rdB
    rw [if_pos (by show 0 + len * 2 ≤ (l.flatMap Pt.cs).length; rw [e4]; omega), List.drop_zero]
    congr 1
    have : ∀ (l : List Pt) (k : Nat), (l.flatMap Pt.cs).take (k * 2) = (l.take k).flatMap Pt.cs := by
      intro l
      induction l with
      | nil => intro k; simp
      | cons x l ih =>
        intro k
        cases k with
        | zero => simp
        | succ k =>
          rw [show (k + 1) * 2 = k * 2 + 1 + 1 by omega]
          simp [ih k]
    exact this l len
set_option maxRecDepth 100000 in
theorem open39 {H : Type} {enc : TypeId × Value → H} {w : World} {base base' : Nat} {held : Bool} {v : Value} {d : DataW H} {ps : List MemPlace} (hv : Value.okWide Tryd.prog w .any base' 39 v) (h : DataW.Trod enc Tryd.prog w base (fun _ => true) held 39 v d ps) :
    ∃ c b, v = .agg #[c, .bool b] ∧ SlOk w [.int .i64, .int .i64] c := by
  obtain ⟨cs, rfl, hl, hf⟩ := arg_mix (ts := [24, 4]) Tryd.underlying39 (by kernel_rfl) hv h
  rw [show Tryd.prog.cellsOf 39 = 2 by kernel_rfl] at hl
  match cs, hl with
  | [c, p], _ =>
    have h0 := hf 0 _ c rfl (by kernel_rfl) (fun u hu => (Option.some.inj hu).symm) rfl
    have h1 := hf 1 _ p rfl (by kernel_rfl) (fun u hu => (Option.some.inj hu).symm) rfl
    obtain ⟨b, rfl⟩ := mix_bool Tryd.underlying4 h1
    exact ⟨c, b, rfl, mix_slice (k := 8) Tryd.underlying24 (by kernel_rfl) (by kernel_rfl) (by decide) h0⟩
/-- A law over a subpath, a half width and a cap, over the laid table. -/
theorem row_pen {f : Nat} (hlaw : ∀ (c0 : Cell) (l : List Pt) (c : Bool) (h cap : Int) (m : Mem) (n : Nat), RPt m n (.one c0) l → 0 < n → m 0 = some ⟨cosT, false⟩ → Fn TA f [.agg [c0, .sc (.bool c)], RI h, RI cap] m n (fun r _ _ => r = RB true))
    (hmix : Tryd.prog.follows .mixedOrders = true) (W : World) (ht : 0 < W.heap.size ∧ ∀ j v, cosV[j]? = some v → W.cell? ⟨0, j, none⟩ = some (.int .i64 v)) (v : Value) (hv : ∃ c b, v = .agg #[c, .bool b] ∧ SlOk W [.int .i64, .int .i64] c)
    (k : Int) (hk : IntKind.i64.min ≤ k ∧ k ≤ IntKind.i64.max) (k2 : Int) (hk2 : IntKind.i64.min ≤ k2 ∧ k2 ≤ IntKind.i64.max) :
    Calls Tryd.prog f #[v, .int .i64 k, .int .i64 k2] W (fun e w' => e = .returned (.bool true) ∧ Go.RowKit.Below W.heap.size W w') := by
  obtain ⟨c, b, rfl, hs⟩ := hv
  obtain ⟨ρ, n, m, c0, hm, hh, hle, hc, hold, rfl, hk0⟩ := mix_lay (tab_mem (vals := cosV) ht.1 ht.2) tab_held hs
  obtain ⟨l, hr⟩ := pts_rl hk0
  have hg : Glob 1 ρ (1 + 1) := tab_glob.mono hle
  exact law_calls (ng := 1) (ρ := ρ) (n := 1 + 1) hmix TA_ok (hlaw c0 l b k k2 m (1 + 1) hr (by omega) (by rw [hold 0 (by omega)]; exact upd_same _ _ _)) hm hg ⟨_, _, rfl, ⟨_, rfl, _, _, rfl, hc, _, _, rfl, ⟨rfl, rfl⟩, rfl⟩, _, _, rfl, ⟨rfl, rfl⟩, _, _, rfl, ⟨rfl, rfl⟩, rfl⟩ hh

/- The row StrokeWinds. Conditions: those that each theorem names. -/
open Go Go.Proofs
open Go.RowKit Go.ChangeShapes Go.WideShapes Go.Deep
set_option linter.unusedVariables false

theorem rowL6 (hmix : Tryd.prog.follows .mixedOrders = true) (W : World) (ht : 0 < W.heap.size ∧ ∀ j v, cosV[j]? = some v → W.cell? ⟨0, j, none⟩ = some (.int .i64 v)) (v : Value) (hv : ∃ c b, v = .agg #[c, .bool b] ∧ SlOk W [.int .i64, .int .i64] c)
    (k : Int) (hk : IntKind.i64.min ≤ k ∧ k ≤ IntKind.i64.max) (l : List Value) (h : CksOk [.int .i64, .int .i64] l) :
    Calls Tryd.prog 6 #[v, .int .i64 k, .agg l.toArray] W (fun e w' => e = .returned (.bool true) ∧ Go.RowKit.Below W.heap.size W w') := by
  obtain ⟨c, b, rfl, hs⟩ := hv
  obtain ⟨ρ, n, m, c0, hm, hh, hle, hc, hold, rfl, hk0⟩ := mix_lay (tab_mem (vals := cosV) ht.1 ht.2) tab_held hs
  obtain ⟨pl, hr⟩ := pts_rl hk0
  have hg : Glob 1 ρ (1 + 1) := tab_glob.mono hle
  have r0 := h.rel (ρ := ρ) (n := 1 + 1) (w := W)
  obtain ⟨cx, _, rfl, _, cy, _, rfl, _, rfl⟩ := h
  exact law_calls (ng := 1) (ρ := ρ) (n := 1 + 1) hmix TA_ok (law6 c0 pl b k ⟨cx, cy⟩ m (1 + 1) hr (by omega) false (by rw [hold 0 (by omega)]; exact upd_same _ _ _)) hm hg
    ⟨_, _, rfl, ⟨_, rfl, _, _, rfl, hc, _, _, rfl, ⟨rfl, rfl⟩, rfl⟩, _, _, rfl, ⟨rfl, rfl⟩, _, _, rfl, ⟨_, rfl, r0⟩, rfl⟩ hh

end Go.Proofs.YtidpeongblkcbaaDoor.Sy
