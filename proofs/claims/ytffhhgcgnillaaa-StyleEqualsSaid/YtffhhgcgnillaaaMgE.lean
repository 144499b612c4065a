import Derived.Test.YtffhhgcgnillaaaMgD
/- Paints: checked, told right, compared. Conditions: those that each theorem names. -/
namespace Go.Proofs.Ytffhhgcgnillaaa.Sy
open Go Go.Proofs
set_option linter.unusedSimpArgs false
set_option linter.unusedVariables false
set_option maxRecDepth 20000
attribute [local go_sem] XK_seq XK_block XK_skip XK_exit XK_ret XK_cond XK_reg XK_dreg XK_ureg KN_seq KN_blk KN_lp KN_chk KN_chku KN_top KN_fin KX_seq KX_lp KX_blk KX_chk KX_top KR_seq KR_blk KR_lp KR_chk KR_top KR_fin FK_true FK_false RK_nil RK_mv RK_pick RK_alloc RK_box RK_build RK_bslice RK_load1 RK_loadA RK_store RK_nilchk RK_bin RK_beq RK_eqv RK_eqnil RK_un RK_conv RK_mkfn RK_mkslice RK_slS RK_slA RK_fadr RK_fld RK_iadrA RK_iadrS RK_idxA RK_ext RK_lenC RK_cap RK_app RK_cpy RK_mn RK_mx RK_len RK_carry RK_clr carryR um0 um1 ThenK_some RK_guard GK_tt GK_ff GK_tf GK_ft GK_none QK_some RK_callQ RK_callZ VK_clo RK_callV
  evalOp evO evOs upd_at unfrz_at putE_some putE_none boolOf_b boolOf_tup Option.map_some evRes pack_one pack_two pack_three pack_none List.getD_cons_zero List.getD_cons_succ getD_nil
  Option.some.injEq exists_eq_left' Reg.cs? fillC setL List.set_cons_zero List.set_cons_succ List.length_cons List.length_nil rd_upd rd_updn rdB wr List.drop_zero List.drop_succ_cons List.take_succ_cons List.take_zero List.getElem?_cons_zero List.getElem?_cons_succ
  ix Int.toNat_zero lenO_sl lenO_nil nadd na_eq na_eq' na_lt na_ee na_ll na_ne na_ne' na_tt
attribute [local go_sem] Reg.flat_one Reg.flat_agg Reg.flat_tup flats_nil flats_cons Cell.flat_sc Cell.flat_ptr List.all_cons List.all_nil disOk safeOk safeR decide_eq_true_eq decide_eq_false_iff_not
  List.map_cons List.map_nil List.cons_append List.nil_append List.append_nil evalOp.capsOf Bool.false_bne Bool.bne_false Bool.true_bne Bool.bne_true bne_self_eq_false beq_self_eq_true Bool.not_not Bool.false_and Bool.and_false Bool.true_or Bool.or_true beq_iff_eq eqCells
  Bool.true_beq Bool.false_beq Bool.not_eq_true' Bool.not_eq_eq_eq_not Bool.not_eq_false' and_false false_and frz_at idOf Option.isSome_some Bool.and_eq_true
attribute [local go_sem] wr_eq bV_add bV_sub bV_mul bV_eql bV_neq bV_lss bV_leq bV_gtr bV_geq bV_quo bV_rem bV_shr bV_shl uV_not uV_neg wrapU bits_and bits_or bits_xor IntKind.bits Nat.min_eq_left Nat.min_eq_right Nat.min_self
attribute [local go_sem] bne_iff_ne Int.cast_ofNat_Int Nat.zero_add Nat.add_zero and_self and_true true_and ne_eq not_false_eq_true not_true_eq_false decide_true decide_false Bool.false_eq_true Bool.not_true Bool.not_false Bool.true_and Bool.and_true Bool.or_false Bool.false_or Bool.and_self

structure Pai where
  k : Int
  c0 : Int
  c1 : Int
  c2 : Int
  c3 : Int
  fx : Int
  fy : Int
  tx : Int
  ty : Int
  st : Cell
abbrev Pai.cs (p : Pai) : List Cell := [I p.k, U8 p.c0, U8 p.c1, U8 p.c2, U8 p.c3, I p.fx, I p.fy, I p.tx, I p.ty, p.st]
def Pai.by (p : Pai) : Prop := (byteB p.c0 ∧ byteB p.c1) ∧ byteB p.c2 ∧ byteB p.c3
def farB (x y : Int) : Bool := decide (x < -16777216) || (decide (16777216 < x) || (decide (y < -16777216) || decide (16777216 < y)))
theorem v_far (x y : Int) (m : Mem) (n : Nat) : callF TA 8 [.agg [I x, I y]] m n = some (RB (farB x y)) := by
  refine callF_of (Fn_ofK (fn := F8) rfl (by simp [F8]) ?_)
  unfold farB
  by_cases h1 : x < -16777216
  · skip
    try simp only [r8_0, r8_1, c8, F8, h1, Bool.true_or, Bool.or_true, go_sem, Int.reduceTMod, Int.reduceTDiv, Int.reduceDiv, Int.reduceMod, Int.reduceAdd, Int.reduceSub, Int.reduceMul, Int.reduceNeg, Int.reducePow, Int.reduceEq, ↓reduceIte, Nat.reduceEqDiff, Nat.reduceAdd, Nat.reduceMul, Nat.reduceLeDiff, Nat.reduceSub, Nat.reduceLT, Int.reduceToNat, Int.reduceLT, Int.reduceLE, reduceCtorEq]
    repeat' ((first | refine FK_split (fun h_ => ?_) (fun h_ => ?_) | refine GK_split (fun h_ => ?_) (fun h_ => ?_) | refine ite_both (fun h_ => ?_) (fun h_ => ?_)) <;> (try simp only [decide_eq_true_eq, decide_eq_false_iff_not, Bool.not_true, Bool.not_false, Bool.not_eq_true', Bool.not_eq_false', Bool.not_eq_eq_eq_not, Decidable.not_not] at h_) <;> (try simp only [r8_0, r8_1, c8, F8, h1, Bool.true_or, Bool.or_true, h_, go_sem, Int.reduceTMod, Int.reduceTDiv, Int.reduceDiv, Int.reduceMod, Int.reduceAdd, Int.reduceSub, Int.reduceMul, Int.reduceNeg, Int.reducePow, Int.reduceEq, ↓reduceIte, Nat.reduceEqDiff, Nat.reduceAdd, Nat.reduceMul, Nat.reduceLeDiff, Nat.reduceSub, Nat.reduceLT, Int.reduceToNat, Int.reduceLT, Int.reduceLE, reduceCtorEq]))
  · by_cases h2 : 16777216 < x
    · skip
      try simp only [r8_0, r8_1, c8, F8, h1, h2, Bool.true_or, Bool.or_true, go_sem, Int.reduceTMod, Int.reduceTDiv, Int.reduceDiv, Int.reduceMod, Int.reduceAdd, Int.reduceSub, Int.reduceMul, Int.reduceNeg, Int.reducePow, Int.reduceEq, ↓reduceIte, Nat.reduceEqDiff, Nat.reduceAdd, Nat.reduceMul, Nat.reduceLeDiff, Nat.reduceSub, Nat.reduceLT, Int.reduceToNat, Int.reduceLT, Int.reduceLE, reduceCtorEq]
      repeat' ((first | refine FK_split (fun h_ => ?_) (fun h_ => ?_) | refine GK_split (fun h_ => ?_) (fun h_ => ?_) | refine ite_both (fun h_ => ?_) (fun h_ => ?_)) <;> (try simp only [decide_eq_true_eq, decide_eq_false_iff_not, Bool.not_true, Bool.not_false, Bool.not_eq_true', Bool.not_eq_false', Bool.not_eq_eq_eq_not, Decidable.not_not] at h_) <;> (try simp only [r8_0, r8_1, c8, F8, h1, h2, Bool.true_or, Bool.or_true, h_, go_sem, Int.reduceTMod, Int.reduceTDiv, Int.reduceDiv, Int.reduceMod, Int.reduceAdd, Int.reduceSub, Int.reduceMul, Int.reduceNeg, Int.reducePow, Int.reduceEq, ↓reduceIte, Nat.reduceEqDiff, Nat.reduceAdd, Nat.reduceMul, Nat.reduceLeDiff, Nat.reduceSub, Nat.reduceLT, Int.reduceToNat, Int.reduceLT, Int.reduceLE, reduceCtorEq]))
    · by_cases h3 : y < -16777216
      · skip
        try simp only [r8_0, r8_1, c8, F8, h1, h2, h3, Bool.true_or, Bool.or_true, go_sem, Int.reduceTMod, Int.reduceTDiv, Int.reduceDiv, Int.reduceMod, Int.reduceAdd, Int.reduceSub, Int.reduceMul, Int.reduceNeg, Int.reducePow, Int.reduceEq, ↓reduceIte, Nat.reduceEqDiff, Nat.reduceAdd, Nat.reduceMul, Nat.reduceLeDiff, Nat.reduceSub, Nat.reduceLT, Int.reduceToNat, Int.reduceLT, Int.reduceLE, reduceCtorEq]
        repeat' ((first | refine FK_split (fun h_ => ?_) (fun h_ => ?_) | refine GK_split (fun h_ => ?_) (fun h_ => ?_) | refine ite_both (fun h_ => ?_) (fun h_ => ?_)) <;> (try simp only [decide_eq_true_eq, decide_eq_false_iff_not, Bool.not_true, Bool.not_false, Bool.not_eq_true', Bool.not_eq_false', Bool.not_eq_eq_eq_not, Decidable.not_not] at h_) <;> (try simp only [r8_0, r8_1, c8, F8, h1, h2, h3, Bool.true_or, Bool.or_true, h_, go_sem, Int.reduceTMod, Int.reduceTDiv, Int.reduceDiv, Int.reduceMod, Int.reduceAdd, Int.reduceSub, Int.reduceMul, Int.reduceNeg, Int.reducePow, Int.reduceEq, ↓reduceIte, Nat.reduceEqDiff, Nat.reduceAdd, Nat.reduceMul, Nat.reduceLeDiff, Nat.reduceSub, Nat.reduceLT, Int.reduceToNat, Int.reduceLT, Int.reduceLE, reduceCtorEq]))
      · skip
        try simp only [r8_0, r8_1, c8, F8, h1, h2, h3, Bool.true_or, Bool.or_true, go_sem, Int.reduceTMod, Int.reduceTDiv, Int.reduceDiv, Int.reduceMod, Int.reduceAdd, Int.reduceSub, Int.reduceMul, Int.reduceNeg, Int.reducePow, Int.reduceEq, ↓reduceIte, Nat.reduceEqDiff, Nat.reduceAdd, Nat.reduceMul, Nat.reduceLeDiff, Nat.reduceSub, Nat.reduceLT, Int.reduceToNat, Int.reduceLT, Int.reduceLE, reduceCtorEq]
        repeat' ((first | refine FK_split (fun h_ => ?_) (fun h_ => ?_) | refine GK_split (fun h_ => ?_) (fun h_ => ?_) | refine ite_both (fun h_ => ?_) (fun h_ => ?_)) <;> (try simp only [decide_eq_true_eq, decide_eq_false_iff_not, Bool.not_true, Bool.not_false, Bool.not_eq_true', Bool.not_eq_false', Bool.not_eq_eq_eq_not, Decidable.not_not] at h_) <;> (try simp only [r8_0, r8_1, c8, F8, h1, h2, h3, Bool.true_or, Bool.or_true, h_, go_sem, Int.reduceTMod, Int.reduceTDiv, Int.reduceDiv, Int.reduceMod, Int.reduceAdd, Int.reduceSub, Int.reduceMul, Int.reduceNeg, Int.reducePow, Int.reduceEq, ↓reduceIte, Nat.reduceEqDiff, Nat.reduceAdd, Nat.reduceMul, Nat.reduceLeDiff, Nat.reduceSub, Nat.reduceLT, Int.reduceToNat, Int.reduceLT, Int.reduceLE, reduceCtorEq]))
theorem v_nearS (x y : Int) (m : Mem) (n : Nat) : callF TA 31 [.agg [I x, I y]] m n = some (RB (!farB x y)) := by
  refine callF_of (Fn_ofK (fn := F31) rfl (by simp [F31]) ?_)
  have e : (decide (-16777216 ≤ mnI x y) && decide (mxI x y ≤ 16777216)) = !farB x y := by
    unfold farB mnI mxI
    rw [Bool.eq_iff_iff]
    simp only [Bool.and_eq_true, decide_eq_true_eq, Bool.not_eq_true', Bool.or_eq_false_iff, decide_eq_false_iff_not]
    repeat' split
    all_goals omega
  rw [← e]
  by_cases h1 : -16777216 ≤ mnI x y
  · skip
    try simp only [r31_0, r31_1, c31, F31, minI_two, maxI_two, h1, go_sem, Int.reduceTMod, Int.reduceTDiv, Int.reduceDiv, Int.reduceMod, Int.reduceAdd, Int.reduceSub, Int.reduceMul, Int.reduceNeg, Int.reducePow, Int.reduceEq, ↓reduceIte, Nat.reduceEqDiff, Nat.reduceAdd, Nat.reduceMul, Nat.reduceLeDiff, Nat.reduceSub, Nat.reduceLT, Int.reduceToNat, Int.reduceLT, Int.reduceLE, reduceCtorEq]
    repeat' ((first | refine FK_split (fun h_ => ?_) (fun h_ => ?_) | refine GK_split (fun h_ => ?_) (fun h_ => ?_) | refine ite_both (fun h_ => ?_) (fun h_ => ?_)) <;> (try simp only [decide_eq_true_eq, decide_eq_false_iff_not, Bool.not_true, Bool.not_false, Bool.not_eq_true', Bool.not_eq_false', Bool.not_eq_eq_eq_not, Decidable.not_not] at h_) <;> (try simp only [r31_0, r31_1, c31, F31, minI_two, maxI_two, h1, h_, go_sem, Int.reduceTMod, Int.reduceTDiv, Int.reduceDiv, Int.reduceMod, Int.reduceAdd, Int.reduceSub, Int.reduceMul, Int.reduceNeg, Int.reducePow, Int.reduceEq, ↓reduceIte, Nat.reduceEqDiff, Nat.reduceAdd, Nat.reduceMul, Nat.reduceLeDiff, Nat.reduceSub, Nat.reduceLT, Int.reduceToNat, Int.reduceLT, Int.reduceLE, reduceCtorEq]))
  · skip
    try simp only [r31_0, r31_1, c31, F31, minI_two, maxI_two, h1, go_sem, Int.reduceTMod, Int.reduceTDiv, Int.reduceDiv, Int.reduceMod, Int.reduceAdd, Int.reduceSub, Int.reduceMul, Int.reduceNeg, Int.reducePow, Int.reduceEq, ↓reduceIte, Nat.reduceEqDiff, Nat.reduceAdd, Nat.reduceMul, Nat.reduceLeDiff, Nat.reduceSub, Nat.reduceLT, Int.reduceToNat, Int.reduceLT, Int.reduceLE, reduceCtorEq]
    repeat' ((first | refine FK_split (fun h_ => ?_) (fun h_ => ?_) | refine GK_split (fun h_ => ?_) (fun h_ => ?_) | refine ite_both (fun h_ => ?_) (fun h_ => ?_)) <;> (try simp only [decide_eq_true_eq, decide_eq_false_iff_not, Bool.not_true, Bool.not_false, Bool.not_eq_true', Bool.not_eq_false', Bool.not_eq_eq_eq_not, Decidable.not_not] at h_) <;> (try simp only [r31_0, r31_1, c31, F31, minI_two, maxI_two, h1, h_, go_sem, Int.reduceTMod, Int.reduceTDiv, Int.reduceDiv, Int.reduceMod, Int.reduceAdd, Int.reduceSub, Int.reduceMul, Int.reduceNeg, Int.reducePow, Int.reduceEq, ↓reduceIte, Nat.reduceEqDiff, Nat.reduceAdd, Nat.reduceMul, Nat.reduceLeDiff, Nat.reduceSub, Nat.reduceLT, Int.reduceToNat, Int.reduceLT, Int.reduceLE, reduceCtorEq]))
def Pai.zf (p : Pai) : Bool := p.fx == 0 && p.fy == 0
def Pai.zt (p : Pai) : Bool := p.tx == 0 && p.ty == 0
def Pai.cz (p : Pai) : Bool := p.c0 == 0 && (p.c1 == 0 && (p.c2 == 0 && p.c3 == 0))
def Pai.ft (p : Pai) : Bool := p.fx == p.tx && p.fy == p.ty
def Pai.cr (p : Pai) : Bool := crB p.c0 p.c1 p.c2 p.c3
/-- The error's number of a paint. -/
def rightV (p : Pai) (l : List Stp) : Int :=
  if p.k < 0 ∨ 3 < p.k then 33 else if p.k = 0 then (if (p.zf && (p.zt && decide (l.length = 0)) && p.cz) = true then 0 else 30)
  else if p.k = 1 then (if (p.zf && (p.zt && decide (l.length = 0)) && p.cr) = true then 0 else 30)
  else (if (p.cz && (!farB p.fx p.fy && (!farB p.tx p.ty && (!p.ft && stopsB l)))) = true then 0 else 30)
theorem cz_cr {p : Pai} (h : p.cz = true) : p.cr = true := by
  unfold Pai.cz at h
  simp only [Bool.and_eq_true, beq_iff_eq] at h
  unfold Pai.cr crB
  rw [h.1, h.2.1, h.2.2.1, h.2.2.2]
  rfl
theorem OL.ge {α : Type} {enc : α → List Cell} {sz base : Nat} {m : Mem} {n : Nat} {r : Reg} {l : List α} (h : OL enc sz base m n r l) {id : Nat} (hi : sid r = some id) : base ≤ id := by
  rcases h with ⟨rfl, _⟩ | ⟨id', rfl, h2, _⟩
  · cases hi
  · simp only [sid, Option.some.injEq] at hi; omega
theorem v_right (p : Pai) (l : List Stp) (m : Mem) (n : Nat) (hr : RSt m n (.one p.st) l) (hb : ∀ s ∈ l, s.by) (hp : p.by) (hl : l.length < 4294967296) : callF TA 7 [.agg p.cs] m n = some (RI (rightV p l)) := by
  refine callF_of (Fn_ofK (fn := F7) rfl (by simp [F7]) ?_)
  have hlen := hr.len
  have ez : ((l.length : Int) = 0) = (l.length = 0) := by apply propext; omega
  by_cases k1 : p.k < 0
  · have e : rightV p l = 33 := by unfold rightV; rw [if_pos (Or.inl k1)]
    try simp only [r7_0, r7_1, r7_2, r7_3, r7_4, r7_7, r7_8, r7_9, r7_10, r7_11, r7_12, r7_5, r7_6, r7_13, c7, F7, k1, e, go_sem, Int.reduceTMod, Int.reduceTDiv, Int.reduceDiv, Int.reduceMod, Int.reduceAdd, Int.reduceSub, Int.reduceMul, Int.reduceNeg, Int.reducePow, Int.reduceEq, ↓reduceIte, Nat.reduceEqDiff, Nat.reduceAdd, Nat.reduceMul, Nat.reduceLeDiff, Nat.reduceSub, Nat.reduceLT, Int.reduceToNat, Int.reduceLT, Int.reduceLE, reduceCtorEq]
    repeat' ((first | refine FK_split (fun h_ => ?_) (fun h_ => ?_) | refine GK_split (fun h_ => ?_) (fun h_ => ?_) | refine ite_both (fun h_ => ?_) (fun h_ => ?_)) <;> (try simp only [decide_eq_true_eq, decide_eq_false_iff_not, Bool.not_true, Bool.not_false, Bool.not_eq_true', Bool.not_eq_false', Bool.not_eq_eq_eq_not, Decidable.not_not] at h_) <;> (try simp only [r7_0, r7_1, r7_2, r7_3, r7_4, r7_7, r7_8, r7_9, r7_10, r7_11, r7_12, r7_5, r7_6, r7_13, c7, F7, k1, e, h_, go_sem, Int.reduceTMod, Int.reduceTDiv, Int.reduceDiv, Int.reduceMod, Int.reduceAdd, Int.reduceSub, Int.reduceMul, Int.reduceNeg, Int.reducePow, Int.reduceEq, ↓reduceIte, Nat.reduceEqDiff, Nat.reduceAdd, Nat.reduceMul, Nat.reduceLeDiff, Nat.reduceSub, Nat.reduceLT, Int.reduceToNat, Int.reduceLT, Int.reduceLE, reduceCtorEq]))
  · by_cases k2 : 3 < p.k
    · have e : rightV p l = 33 := by unfold rightV; rw [if_pos (Or.inr k2)]
      try simp only [r7_0, r7_1, r7_2, r7_3, r7_4, r7_7, r7_8, r7_9, r7_10, r7_11, r7_12, r7_5, r7_6, r7_13, c7, F7, k1, k2, e, go_sem, Int.reduceTMod, Int.reduceTDiv, Int.reduceDiv, Int.reduceMod, Int.reduceAdd, Int.reduceSub, Int.reduceMul, Int.reduceNeg, Int.reducePow, Int.reduceEq, ↓reduceIte, Nat.reduceEqDiff, Nat.reduceAdd, Nat.reduceMul, Nat.reduceLeDiff, Nat.reduceSub, Nat.reduceLT, Int.reduceToNat, Int.reduceLT, Int.reduceLE, reduceCtorEq]
      repeat' ((first | refine FK_split (fun h_ => ?_) (fun h_ => ?_) | refine GK_split (fun h_ => ?_) (fun h_ => ?_) | refine ite_both (fun h_ => ?_) (fun h_ => ?_)) <;> (try simp only [decide_eq_true_eq, decide_eq_false_iff_not, Bool.not_true, Bool.not_false, Bool.not_eq_true', Bool.not_eq_false', Bool.not_eq_eq_eq_not, Decidable.not_not] at h_) <;> (try simp only [r7_0, r7_1, r7_2, r7_3, r7_4, r7_7, r7_8, r7_9, r7_10, r7_11, r7_12, r7_5, r7_6, r7_13, c7, F7, k1, k2, e, h_, go_sem, Int.reduceTMod, Int.reduceTDiv, Int.reduceDiv, Int.reduceMod, Int.reduceAdd, Int.reduceSub, Int.reduceMul, Int.reduceNeg, Int.reducePow, Int.reduceEq, ↓reduceIte, Nat.reduceEqDiff, Nat.reduceAdd, Nat.reduceMul, Nat.reduceLeDiff, Nat.reduceSub, Nat.reduceLT, Int.reduceToNat, Int.reduceLT, Int.reduceLE, reduceCtorEq]))
    · have h1 : (p.fx == 0 && p.fy == 0) = p.zf := rfl
      have h2 : (p.tx == 0 && p.ty == 0) = p.zt := rfl
      have h3 : (p.c0 == 0 && (p.c1 == 0 && (p.c2 == 0 && p.c3 == 0))) = p.cz := rfl
      have h4 : (p.fx == p.tx && p.fy == p.ty) = p.ft := rfl
      have h5 := v_rCRight p.c0 p.c1 p.c2 p.c3
      rw [show crB p.c0 p.c1 p.c2 p.c3 = p.cr from rfl] at h5
      have h6 := v_refColor hp.1.1 hp.1.2 hp.2.1 hp.2.2
      have f1 := v_far p.fx p.fy
      have f2 := v_far p.tx p.ty
      have hR : rightV p l = if p.k = 0 then (if (p.zf && (p.zt && decide (l.length = 0)) && p.cz) = true then 0 else 30)
          else if p.k = 1 then (if (p.zf && (p.zt && decide (l.length = 0)) && p.cr) = true then 0 else 30)
          else (if (p.cz && (!farB p.fx p.fy && (!farB p.tx p.ty && (!p.ft && stopsB l)))) = true then 0 else 30) := by
        unfold rightV; rw [if_neg (by omega)]
      by_cases g0 : p.k = 0
      · rw [if_pos g0] at hR
        rw [hR]
        try simp only [r7_0, r7_1, r7_2, r7_3, r7_4, r7_7, r7_8, r7_9, r7_10, r7_11, r7_12, r7_5, r7_6, r7_13, c7, F7, k1, k2, g0, h1, h2, h3, h4, h5, h6, hlen, ez, go_sem, Int.reduceTMod, Int.reduceTDiv, Int.reduceDiv, Int.reduceMod, Int.reduceAdd, Int.reduceSub, Int.reduceMul, Int.reduceNeg, Int.reducePow, Int.reduceEq, ↓reduceIte, Nat.reduceEqDiff, Nat.reduceAdd, Nat.reduceMul, Nat.reduceLeDiff, Nat.reduceSub, Nat.reduceLT, Int.reduceToNat, Int.reduceLT, Int.reduceLE, reduceCtorEq]
        repeat' ((first | refine FK_split (fun h_ => ?_) (fun h_ => ?_) | refine GK_split (fun h_ => ?_) (fun h_ => ?_) | refine ite_both (fun h_ => ?_) (fun h_ => ?_)) <;> (try simp only [decide_eq_true_eq, decide_eq_false_iff_not, Bool.not_true, Bool.not_false, Bool.not_eq_true', Bool.not_eq_false', Bool.not_eq_eq_eq_not, Decidable.not_not] at h_) <;> (try simp only [r7_0, r7_1, r7_2, r7_3, r7_4, r7_7, r7_8, r7_9, r7_10, r7_11, r7_12, r7_5, r7_6, r7_13, c7, F7, k1, k2, g0, h1, h2, h3, h4, h5, h6, hlen, ez, h_, go_sem, Int.reduceTMod, Int.reduceTDiv, Int.reduceDiv, Int.reduceMod, Int.reduceAdd, Int.reduceSub, Int.reduceMul, Int.reduceNeg, Int.reducePow, Int.reduceEq, ↓reduceIte, Nat.reduceEqDiff, Nat.reduceAdd, Nat.reduceMul, Nat.reduceLeDiff, Nat.reduceSub, Nat.reduceLT, Int.reduceToNat, Int.reduceLT, Int.reduceLE, reduceCtorEq]))
        all_goals simp [*]
      · rw [if_neg g0] at hR
        by_cases g1 : p.k = 1
        · rw [if_pos g1] at hR
          rw [hR]
          try simp only [r7_0, r7_1, r7_2, r7_3, r7_4, r7_7, r7_8, r7_9, r7_10, r7_11, r7_12, r7_5, r7_6, r7_13, c7, F7, k1, k2, g0, g1, h1, h2, h3, h4, h5, h6, hlen, ez, go_sem, Int.reduceTMod, Int.reduceTDiv, Int.reduceDiv, Int.reduceMod, Int.reduceAdd, Int.reduceSub, Int.reduceMul, Int.reduceNeg, Int.reducePow, Int.reduceEq, ↓reduceIte, Nat.reduceEqDiff, Nat.reduceAdd, Nat.reduceMul, Nat.reduceLeDiff, Nat.reduceSub, Nat.reduceLT, Int.reduceToNat, Int.reduceLT, Int.reduceLE, reduceCtorEq]
          repeat' ((first | refine FK_split (fun h_ => ?_) (fun h_ => ?_) | refine GK_split (fun h_ => ?_) (fun h_ => ?_) | refine ite_both (fun h_ => ?_) (fun h_ => ?_)) <;> (try simp only [decide_eq_true_eq, decide_eq_false_iff_not, Bool.not_true, Bool.not_false, Bool.not_eq_true', Bool.not_eq_false', Bool.not_eq_eq_eq_not, Decidable.not_not] at h_) <;> (try simp only [r7_0, r7_1, r7_2, r7_3, r7_4, r7_7, r7_8, r7_9, r7_10, r7_11, r7_12, r7_5, r7_6, r7_13, c7, F7, k1, k2, g0, g1, h1, h2, h3, h4, h5, h6, hlen, ez, h_, go_sem, Int.reduceTMod, Int.reduceTDiv, Int.reduceDiv, Int.reduceMod, Int.reduceAdd, Int.reduceSub, Int.reduceMul, Int.reduceNeg, Int.reducePow, Int.reduceEq, ↓reduceIte, Nat.reduceEqDiff, Nat.reduceAdd, Nat.reduceMul, Nat.reduceLeDiff, Nat.reduceSub, Nat.reduceLT, Int.reduceToNat, Int.reduceLT, Int.reduceLE, reduceCtorEq]))
          all_goals simp [*]
        · rw [if_neg g1] at hR
          cases b1 : p.cz
          · have e : rightV p l = 30 := by rw [hR, b1]; rfl
            try simp only [r7_0, r7_1, r7_2, r7_3, r7_4, r7_7, r7_8, r7_9, r7_10, r7_11, r7_12, r7_5, r7_6, r7_13, c7, F7, k1, k2, g0, g1, h1, h2, h3, h4, hlen, ez, b1, e, go_sem, Int.reduceTMod, Int.reduceTDiv, Int.reduceDiv, Int.reduceMod, Int.reduceAdd, Int.reduceSub, Int.reduceMul, Int.reduceNeg, Int.reducePow, Int.reduceEq, ↓reduceIte, Nat.reduceEqDiff, Nat.reduceAdd, Nat.reduceMul, Nat.reduceLeDiff, Nat.reduceSub, Nat.reduceLT, Int.reduceToNat, Int.reduceLT, Int.reduceLE, reduceCtorEq]
            repeat' ((first | refine FK_split (fun h_ => ?_) (fun h_ => ?_) | refine GK_split (fun h_ => ?_) (fun h_ => ?_) | refine ite_both (fun h_ => ?_) (fun h_ => ?_)) <;> (try simp only [decide_eq_true_eq, decide_eq_false_iff_not, Bool.not_true, Bool.not_false, Bool.not_eq_true', Bool.not_eq_false', Bool.not_eq_eq_eq_not, Decidable.not_not] at h_) <;> (try simp only [r7_0, r7_1, r7_2, r7_3, r7_4, r7_7, r7_8, r7_9, r7_10, r7_11, r7_12, r7_5, r7_6, r7_13, c7, F7, k1, k2, g0, g1, h1, h2, h3, h4, hlen, ez, b1, e, h_, go_sem, Int.reduceTMod, Int.reduceTDiv, Int.reduceDiv, Int.reduceMod, Int.reduceAdd, Int.reduceSub, Int.reduceMul, Int.reduceNeg, Int.reducePow, Int.reduceEq, ↓reduceIte, Nat.reduceEqDiff, Nat.reduceAdd, Nat.reduceMul, Nat.reduceLeDiff, Nat.reduceSub, Nat.reduceLT, Int.reduceToNat, Int.reduceLT, Int.reduceLE, reduceCtorEq]))
          · cases b2 : farB p.fx p.fy
            · cases b3 : farB p.tx p.ty
              · cases b4 : p.ft
                · have e : rightV p l = if stopsB l = true then 0 else 30 := by rw [hR, b1, b2, b3, b4]; simp
                  rw [b2] at f1
                  rw [b3] at f2
                  rw [e]
                  try simp only [r7_0, r7_1, r7_2, r7_3, r7_4, r7_7, r7_8, r7_9, r7_10, r7_11, r7_12, r7_5, r7_6, r7_13, c7, F7, k1, k2, g0, g1, h1, h2, h3, h4, hlen, ez, b1, b4, f1, f2, go_sem, Int.reduceTMod, Int.reduceTDiv, Int.reduceDiv, Int.reduceMod, Int.reduceAdd, Int.reduceSub, Int.reduceMul, Int.reduceNeg, Int.reducePow, Int.reduceEq, ↓reduceIte, Nat.reduceEqDiff, Nat.reduceAdd, Nat.reduceMul, Nat.reduceLeDiff, Nat.reduceSub, Nat.reduceLT, Int.reduceToNat, Int.reduceLT, Int.reduceLE, reduceCtorEq]
                  repeat' ((first | refine FK_split (fun h_ => ?_) (fun h_ => ?_) | refine GK_split (fun h_ => ?_) (fun h_ => ?_) | refine ite_both (fun h_ => ?_) (fun h_ => ?_)) <;> (try simp only [decide_eq_true_eq, decide_eq_false_iff_not, Bool.not_true, Bool.not_false, Bool.not_eq_true', Bool.not_eq_false', Bool.not_eq_eq_eq_not, Decidable.not_not] at h_) <;> (try simp only [r7_0, r7_1, r7_2, r7_3, r7_4, r7_7, r7_8, r7_9, r7_10, r7_11, r7_12, r7_5, r7_6, r7_13, c7, F7, k1, k2, g0, g1, h1, h2, h3, h4, hlen, ez, b1, b4, f1, f2, h_, go_sem, Int.reduceTMod, Int.reduceTDiv, Int.reduceDiv, Int.reduceMod, Int.reduceAdd, Int.reduceSub, Int.reduceMul, Int.reduceNeg, Int.reducePow, Int.reduceEq, ↓reduceIte, Nat.reduceEqDiff, Nat.reduceAdd, Nat.reduceMul, Nat.reduceLeDiff, Nat.reduceSub, Nat.reduceLT, Int.reduceToNat, Int.reduceLT, Int.reduceLE, reduceCtorEq]))
                  all_goals
                    refine RK_callk ?_
                    refine (v_refStops (.one p.st) l _ _ (RL.frz (hr.keep (show n ≤ n + 1 by omega) (fun id hid => upd_ne _ _ (by omega)))) hb hl).mono ?_
                    rintro r1 m1 n1 ⟨ho, hn1⟩
                    have hx : RRi (unfrz (upd m n (some ⟨p.cs, true⟩)) (n + 1) m1) (max (n + 1) n1) r1 l := (ho.rl ri5).keep' (by omega) (fun id hid => by rw [unfrz_at, if_neg (by have := ho.ge hid; omega)])
                    have vS := v_Stops r1 l _ _ hx.frz hl
                    cases hs : stopsB l
                    · rw [hs] at vS
                      try simp only [vS, go_sem, Int.reduceTMod, Int.reduceTDiv, Int.reduceDiv, Int.reduceMod, Int.reduceAdd, Int.reduceSub, Int.reduceMul, Int.reduceNeg, Int.reducePow, Int.reduceEq, ↓reduceIte, Nat.reduceEqDiff, Nat.reduceAdd, Nat.reduceMul, Nat.reduceLeDiff, Nat.reduceSub, Nat.reduceLT, Int.reduceToNat, Int.reduceLT, Int.reduceLE, reduceCtorEq]
                      repeat' ((first | refine FK_split (fun h_ => ?_) (fun h_ => ?_) | refine GK_split (fun h_ => ?_) (fun h_ => ?_) | refine ite_both (fun h_ => ?_) (fun h_ => ?_)) <;> (try simp only [decide_eq_true_eq, decide_eq_false_iff_not, Bool.not_true, Bool.not_false, Bool.not_eq_true', Bool.not_eq_false', Bool.not_eq_eq_eq_not, Decidable.not_not] at h_) <;> (try simp only [vS, h_, go_sem, Int.reduceTMod, Int.reduceTDiv, Int.reduceDiv, Int.reduceMod, Int.reduceAdd, Int.reduceSub, Int.reduceMul, Int.reduceNeg, Int.reducePow, Int.reduceEq, ↓reduceIte, Nat.reduceEqDiff, Nat.reduceAdd, Nat.reduceMul, Nat.reduceLeDiff, Nat.reduceSub, Nat.reduceLT, Int.reduceToNat, Int.reduceLT, Int.reduceLE, reduceCtorEq]))
                    · rw [hs] at vS
                      try simp only [vS, go_sem, Int.reduceTMod, Int.reduceTDiv, Int.reduceDiv, Int.reduceMod, Int.reduceAdd, Int.reduceSub, Int.reduceMul, Int.reduceNeg, Int.reducePow, Int.reduceEq, ↓reduceIte, Nat.reduceEqDiff, Nat.reduceAdd, Nat.reduceMul, Nat.reduceLeDiff, Nat.reduceSub, Nat.reduceLT, Int.reduceToNat, Int.reduceLT, Int.reduceLE, reduceCtorEq]
                      repeat' ((first | refine FK_split (fun h_ => ?_) (fun h_ => ?_) | refine GK_split (fun h_ => ?_) (fun h_ => ?_) | refine ite_both (fun h_ => ?_) (fun h_ => ?_)) <;> (try simp only [decide_eq_true_eq, decide_eq_false_iff_not, Bool.not_true, Bool.not_false, Bool.not_eq_true', Bool.not_eq_false', Bool.not_eq_eq_eq_not, Decidable.not_not] at h_) <;> (try simp only [vS, h_, go_sem, Int.reduceTMod, Int.reduceTDiv, Int.reduceDiv, Int.reduceMod, Int.reduceAdd, Int.reduceSub, Int.reduceMul, Int.reduceNeg, Int.reducePow, Int.reduceEq, ↓reduceIte, Nat.reduceEqDiff, Nat.reduceAdd, Nat.reduceMul, Nat.reduceLeDiff, Nat.reduceSub, Nat.reduceLT, Int.reduceToNat, Int.reduceLT, Int.reduceLE, reduceCtorEq]))
                · have e : rightV p l = 30 := by rw [hR, b4]; simp
                  rw [b2] at f1
                  rw [b3] at f2
                  try simp only [r7_0, r7_1, r7_2, r7_3, r7_4, r7_7, r7_8, r7_9, r7_10, r7_11, r7_12, r7_5, r7_6, r7_13, c7, F7, k1, k2, g0, g1, h1, h2, h3, h4, hlen, ez, b1, b4, f1, f2, e, go_sem, Int.reduceTMod, Int.reduceTDiv, Int.reduceDiv, Int.reduceMod, Int.reduceAdd, Int.reduceSub, Int.reduceMul, Int.reduceNeg, Int.reducePow, Int.reduceEq, ↓reduceIte, Nat.reduceEqDiff, Nat.reduceAdd, Nat.reduceMul, Nat.reduceLeDiff, Nat.reduceSub, Nat.reduceLT, Int.reduceToNat, Int.reduceLT, Int.reduceLE, reduceCtorEq]
                  repeat' ((first | refine FK_split (fun h_ => ?_) (fun h_ => ?_) | refine GK_split (fun h_ => ?_) (fun h_ => ?_) | refine ite_both (fun h_ => ?_) (fun h_ => ?_)) <;> (try simp only [decide_eq_true_eq, decide_eq_false_iff_not, Bool.not_true, Bool.not_false, Bool.not_eq_true', Bool.not_eq_false', Bool.not_eq_eq_eq_not, Decidable.not_not] at h_) <;> (try simp only [r7_0, r7_1, r7_2, r7_3, r7_4, r7_7, r7_8, r7_9, r7_10, r7_11, r7_12, r7_5, r7_6, r7_13, c7, F7, k1, k2, g0, g1, h1, h2, h3, h4, hlen, ez, b1, b4, f1, f2, e, h_, go_sem, Int.reduceTMod, Int.reduceTDiv, Int.reduceDiv, Int.reduceMod, Int.reduceAdd, Int.reduceSub, Int.reduceMul, Int.reduceNeg, Int.reducePow, Int.reduceEq, ↓reduceIte, Nat.reduceEqDiff, Nat.reduceAdd, Nat.reduceMul, Nat.reduceLeDiff, Nat.reduceSub, Nat.reduceLT, Int.reduceToNat, Int.reduceLT, Int.reduceLE, reduceCtorEq]))
              · have e : rightV p l = 30 := by rw [hR, b3]; simp
                rw [b2] at f1
                rw [b3] at f2
                try simp only [r7_0, r7_1, r7_2, r7_3, r7_4, r7_7, r7_8, r7_9, r7_10, r7_11, r7_12, r7_5, r7_6, r7_13, c7, F7, k1, k2, g0, g1, h1, h2, h3, h4, hlen, ez, b1, f1, f2, e, go_sem, Int.reduceTMod, Int.reduceTDiv, Int.reduceDiv, Int.reduceMod, Int.reduceAdd, Int.reduceSub, Int.reduceMul, Int.reduceNeg, Int.reducePow, Int.reduceEq, ↓reduceIte, Nat.reduceEqDiff, Nat.reduceAdd, Nat.reduceMul, Nat.reduceLeDiff, Nat.reduceSub, Nat.reduceLT, Int.reduceToNat, Int.reduceLT, Int.reduceLE, reduceCtorEq]
                repeat' ((first | refine FK_split (fun h_ => ?_) (fun h_ => ?_) | refine GK_split (fun h_ => ?_) (fun h_ => ?_) | refine ite_both (fun h_ => ?_) (fun h_ => ?_)) <;> (try simp only [decide_eq_true_eq, decide_eq_false_iff_not, Bool.not_true, Bool.not_false, Bool.not_eq_true', Bool.not_eq_false', Bool.not_eq_eq_eq_not, Decidable.not_not] at h_) <;> (try simp only [r7_0, r7_1, r7_2, r7_3, r7_4, r7_7, r7_8, r7_9, r7_10, r7_11, r7_12, r7_5, r7_6, r7_13, c7, F7, k1, k2, g0, g1, h1, h2, h3, h4, hlen, ez, b1, f1, f2, e, h_, go_sem, Int.reduceTMod, Int.reduceTDiv, Int.reduceDiv, Int.reduceMod, Int.reduceAdd, Int.reduceSub, Int.reduceMul, Int.reduceNeg, Int.reducePow, Int.reduceEq, ↓reduceIte, Nat.reduceEqDiff, Nat.reduceAdd, Nat.reduceMul, Nat.reduceLeDiff, Nat.reduceSub, Nat.reduceLT, Int.reduceToNat, Int.reduceLT, Int.reduceLE, reduceCtorEq]))
            · have e : rightV p l = 30 := by rw [hR, b2]; simp
              rw [b2] at f1
              try simp only [r7_0, r7_1, r7_2, r7_3, r7_4, r7_7, r7_8, r7_9, r7_10, r7_11, r7_12, r7_5, r7_6, r7_13, c7, F7, k1, k2, g0, g1, h1, h2, h3, h4, hlen, ez, b1, f1, e, go_sem, Int.reduceTMod, Int.reduceTDiv, Int.reduceDiv, Int.reduceMod, Int.reduceAdd, Int.reduceSub, Int.reduceMul, Int.reduceNeg, Int.reducePow, Int.reduceEq, ↓reduceIte, Nat.reduceEqDiff, Nat.reduceAdd, Nat.reduceMul, Nat.reduceLeDiff, Nat.reduceSub, Nat.reduceLT, Int.reduceToNat, Int.reduceLT, Int.reduceLE, reduceCtorEq]
              repeat' ((first | refine FK_split (fun h_ => ?_) (fun h_ => ?_) | refine GK_split (fun h_ => ?_) (fun h_ => ?_) | refine ite_both (fun h_ => ?_) (fun h_ => ?_)) <;> (try simp only [decide_eq_true_eq, decide_eq_false_iff_not, Bool.not_true, Bool.not_false, Bool.not_eq_true', Bool.not_eq_false', Bool.not_eq_eq_eq_not, Decidable.not_not] at h_) <;> (try simp only [r7_0, r7_1, r7_2, r7_3, r7_4, r7_7, r7_8, r7_9, r7_10, r7_11, r7_12, r7_5, r7_6, r7_13, c7, F7, k1, k2, g0, g1, h1, h2, h3, h4, hlen, ez, b1, f1, e, h_, go_sem, Int.reduceTMod, Int.reduceTDiv, Int.reduceDiv, Int.reduceMod, Int.reduceAdd, Int.reduceSub, Int.reduceMul, Int.reduceNeg, Int.reducePow, Int.reduceEq, ↓reduceIte, Nat.reduceEqDiff, Nat.reduceAdd, Nat.reduceMul, Nat.reduceLeDiff, Nat.reduceSub, Nat.reduceLT, Int.reduceToNat, Int.reduceLT, Int.reduceLE, reduceCtorEq]))
theorem v_PCheck (p : Pai) (l : List Stp) (m : Mem) (n : Nat) (hr : RSt m n (.one p.st) l) (hl : l.length < 4294967296) : callF TA 11 [.agg p.cs] m n = some (RI (rightV p l)) := by
  refine callF_of (Fn_ofK (fn := F11) rfl (by simp [F11]) ?_)
  have hlen := hr.len
  have ez : (0 < (l.length : Int)) = ¬ (l.length = 0) := by apply propext; omega
  have h1 : (p.fx == 0 && p.fy == 0) = p.zf := rfl
  have h2 : (p.tx == 0 && p.ty == 0) = p.zt := rfl
  have h3 : (p.c0 == 0 && (p.c1 == 0 && (p.c2 == 0 && p.c3 == 0))) = p.cz := rfl
  have h4 : (p.fx == p.tx && p.fy == p.ty) = p.ft := rfl
  have h5 := v_CRight p.c0 p.c1 p.c2 p.c3
  rw [show crB p.c0 p.c1 p.c2 p.c3 = p.cr from rfl] at h5
  have f1 := v_nearS p.fx p.fy
  have f2 := v_nearS p.tx p.ty
  by_cases k1 : p.k < 0
  · have e : rightV p l = 33 := by unfold rightV; rw [if_pos (Or.inl k1)]
    have e2 : (p.k = 2) = False := eq_false (by omega)
    have e3 : (p.k = 3) = False := eq_false (by omega)
    try simp only [r11_0, r11_1, r11_2, r11_3, r11_4, r11_5, r11_6, r11_7, r11_8, r11_9, r11_10, r11_11, r11_12, c11, F11, k1, e, e2, e3, go_sem, Int.reduceTMod, Int.reduceTDiv, Int.reduceDiv, Int.reduceMod, Int.reduceAdd, Int.reduceSub, Int.reduceMul, Int.reduceNeg, Int.reducePow, Int.reduceEq, ↓reduceIte, Nat.reduceEqDiff, Nat.reduceAdd, Nat.reduceMul, Nat.reduceLeDiff, Nat.reduceSub, Nat.reduceLT, Int.reduceToNat, Int.reduceLT, Int.reduceLE, reduceCtorEq]
    repeat' ((first | refine FK_split (fun h_ => ?_) (fun h_ => ?_) | refine GK_split (fun h_ => ?_) (fun h_ => ?_) | refine ite_both (fun h_ => ?_) (fun h_ => ?_)) <;> (try simp only [decide_eq_true_eq, decide_eq_false_iff_not, Bool.not_true, Bool.not_false, Bool.not_eq_true', Bool.not_eq_false', Bool.not_eq_eq_eq_not, Decidable.not_not] at h_) <;> (try simp only [r11_0, r11_1, r11_2, r11_3, r11_4, r11_5, r11_6, r11_7, r11_8, r11_9, r11_10, r11_11, r11_12, c11, F11, k1, e, e2, e3, h_, go_sem, Int.reduceTMod, Int.reduceTDiv, Int.reduceDiv, Int.reduceMod, Int.reduceAdd, Int.reduceSub, Int.reduceMul, Int.reduceNeg, Int.reducePow, Int.reduceEq, ↓reduceIte, Nat.reduceEqDiff, Nat.reduceAdd, Nat.reduceMul, Nat.reduceLeDiff, Nat.reduceSub, Nat.reduceLT, Int.reduceToNat, Int.reduceLT, Int.reduceLE, reduceCtorEq]))
  · by_cases k2 : 3 < p.k
    · have e : rightV p l = 33 := by unfold rightV; rw [if_pos (Or.inr k2)]
      have e2 : (p.k = 2) = False := eq_false (by omega)
      have e3 : (p.k = 3) = False := eq_false (by omega)
      try simp only [r11_0, r11_1, r11_2, r11_3, r11_4, r11_5, r11_6, r11_7, r11_8, r11_9, r11_10, r11_11, r11_12, c11, F11, k1, k2, e, e2, e3, go_sem, Int.reduceTMod, Int.reduceTDiv, Int.reduceDiv, Int.reduceMod, Int.reduceAdd, Int.reduceSub, Int.reduceMul, Int.reduceNeg, Int.reducePow, Int.reduceEq, ↓reduceIte, Nat.reduceEqDiff, Nat.reduceAdd, Nat.reduceMul, Nat.reduceLeDiff, Nat.reduceSub, Nat.reduceLT, Int.reduceToNat, Int.reduceLT, Int.reduceLE, reduceCtorEq]
      repeat' ((first | refine FK_split (fun h_ => ?_) (fun h_ => ?_) | refine GK_split (fun h_ => ?_) (fun h_ => ?_) | refine ite_both (fun h_ => ?_) (fun h_ => ?_)) <;> (try simp only [decide_eq_true_eq, decide_eq_false_iff_not, Bool.not_true, Bool.not_false, Bool.not_eq_true', Bool.not_eq_false', Bool.not_eq_eq_eq_not, Decidable.not_not] at h_) <;> (try simp only [r11_0, r11_1, r11_2, r11_3, r11_4, r11_5, r11_6, r11_7, r11_8, r11_9, r11_10, r11_11, r11_12, c11, F11, k1, k2, e, e2, e3, h_, go_sem, Int.reduceTMod, Int.reduceTDiv, Int.reduceDiv, Int.reduceMod, Int.reduceAdd, Int.reduceSub, Int.reduceMul, Int.reduceNeg, Int.reducePow, Int.reduceEq, ↓reduceIte, Nat.reduceEqDiff, Nat.reduceAdd, Nat.reduceMul, Nat.reduceLeDiff, Nat.reduceSub, Nat.reduceLT, Int.reduceToNat, Int.reduceLT, Int.reduceLE, reduceCtorEq]))
    · have hR : rightV p l = if p.k = 0 then (if (p.zf && (p.zt && decide (l.length = 0)) && p.cz) = true then 0 else 30)
          else if p.k = 1 then (if (p.zf && (p.zt && decide (l.length = 0)) && p.cr) = true then 0 else 30)
          else (if (p.cz && (!farB p.fx p.fy && (!farB p.tx p.ty && (!p.ft && stopsB l)))) = true then 0 else 30) := by
        unfold rightV; rw [if_neg (by omega)]
      by_cases g0 : p.k = 0
      · rw [if_pos g0] at hR
        rw [hR]
        cases hc : p.cz
        · skip
          try simp only [r11_0, r11_1, r11_2, r11_3, r11_4, r11_5, r11_6, r11_7, r11_8, r11_9, r11_10, r11_11, r11_12, c11, F11, g0, h1, h2, h3, h4, h5, f1, f2, hlen, ez, hc, go_sem, Int.reduceTMod, Int.reduceTDiv, Int.reduceDiv, Int.reduceMod, Int.reduceAdd, Int.reduceSub, Int.reduceMul, Int.reduceNeg, Int.reducePow, Int.reduceEq, ↓reduceIte, Nat.reduceEqDiff, Nat.reduceAdd, Nat.reduceMul, Nat.reduceLeDiff, Nat.reduceSub, Nat.reduceLT, Int.reduceToNat, Int.reduceLT, Int.reduceLE, reduceCtorEq]
          repeat' ((first | refine FK_split (fun h_ => ?_) (fun h_ => ?_) | refine GK_split (fun h_ => ?_) (fun h_ => ?_) | refine ite_both (fun h_ => ?_) (fun h_ => ?_)) <;> (try simp only [decide_eq_true_eq, decide_eq_false_iff_not, Bool.not_true, Bool.not_false, Bool.not_eq_true', Bool.not_eq_false', Bool.not_eq_eq_eq_not, Decidable.not_not] at h_) <;> (try simp only [r11_0, r11_1, r11_2, r11_3, r11_4, r11_5, r11_6, r11_7, r11_8, r11_9, r11_10, r11_11, r11_12, c11, F11, g0, h1, h2, h3, h4, h5, f1, f2, hlen, ez, hc, h_, go_sem, Int.reduceTMod, Int.reduceTDiv, Int.reduceDiv, Int.reduceMod, Int.reduceAdd, Int.reduceSub, Int.reduceMul, Int.reduceNeg, Int.reducePow, Int.reduceEq, ↓reduceIte, Nat.reduceEqDiff, Nat.reduceAdd, Nat.reduceMul, Nat.reduceLeDiff, Nat.reduceSub, Nat.reduceLT, Int.reduceToNat, Int.reduceLT, Int.reduceLE, reduceCtorEq]))
          all_goals simp [*]
        · rw [cz_cr hc] at h5
          try simp only [r11_0, r11_1, r11_2, r11_3, r11_4, r11_5, r11_6, r11_7, r11_8, r11_9, r11_10, r11_11, r11_12, c11, F11, g0, h1, h2, h3, h4, h5, f1, f2, hlen, ez, hc, go_sem, Int.reduceTMod, Int.reduceTDiv, Int.reduceDiv, Int.reduceMod, Int.reduceAdd, Int.reduceSub, Int.reduceMul, Int.reduceNeg, Int.reducePow, Int.reduceEq, ↓reduceIte, Nat.reduceEqDiff, Nat.reduceAdd, Nat.reduceMul, Nat.reduceLeDiff, Nat.reduceSub, Nat.reduceLT, Int.reduceToNat, Int.reduceLT, Int.reduceLE, reduceCtorEq]
          repeat' ((first | refine FK_split (fun h_ => ?_) (fun h_ => ?_) | refine GK_split (fun h_ => ?_) (fun h_ => ?_) | refine ite_both (fun h_ => ?_) (fun h_ => ?_)) <;> (try simp only [decide_eq_true_eq, decide_eq_false_iff_not, Bool.not_true, Bool.not_false, Bool.not_eq_true', Bool.not_eq_false', Bool.not_eq_eq_eq_not, Decidable.not_not] at h_) <;> (try simp only [r11_0, r11_1, r11_2, r11_3, r11_4, r11_5, r11_6, r11_7, r11_8, r11_9, r11_10, r11_11, r11_12, c11, F11, g0, h1, h2, h3, h4, h5, f1, f2, hlen, ez, hc, h_, go_sem, Int.reduceTMod, Int.reduceTDiv, Int.reduceDiv, Int.reduceMod, Int.reduceAdd, Int.reduceSub, Int.reduceMul, Int.reduceNeg, Int.reducePow, Int.reduceEq, ↓reduceIte, Nat.reduceEqDiff, Nat.reduceAdd, Nat.reduceMul, Nat.reduceLeDiff, Nat.reduceSub, Nat.reduceLT, Int.reduceToNat, Int.reduceLT, Int.reduceLE, reduceCtorEq]))
          all_goals simp [*]
      · rw [if_neg g0] at hR
        by_cases g1 : p.k = 1
        · rw [if_pos g1] at hR
          rw [hR]
          try simp only [r11_0, r11_1, r11_2, r11_3, r11_4, r11_5, r11_6, r11_7, r11_8, r11_9, r11_10, r11_11, r11_12, c11, F11, g1, h1, h2, h3, h4, h5, f1, f2, hlen, ez, go_sem, Int.reduceTMod, Int.reduceTDiv, Int.reduceDiv, Int.reduceMod, Int.reduceAdd, Int.reduceSub, Int.reduceMul, Int.reduceNeg, Int.reducePow, Int.reduceEq, ↓reduceIte, Nat.reduceEqDiff, Nat.reduceAdd, Nat.reduceMul, Nat.reduceLeDiff, Nat.reduceSub, Nat.reduceLT, Int.reduceToNat, Int.reduceLT, Int.reduceLE, reduceCtorEq]
          repeat' ((first | refine FK_split (fun h_ => ?_) (fun h_ => ?_) | refine GK_split (fun h_ => ?_) (fun h_ => ?_) | refine ite_both (fun h_ => ?_) (fun h_ => ?_)) <;> (try simp only [decide_eq_true_eq, decide_eq_false_iff_not, Bool.not_true, Bool.not_false, Bool.not_eq_true', Bool.not_eq_false', Bool.not_eq_eq_eq_not, Decidable.not_not] at h_) <;> (try simp only [r11_0, r11_1, r11_2, r11_3, r11_4, r11_5, r11_6, r11_7, r11_8, r11_9, r11_10, r11_11, r11_12, c11, F11, g1, h1, h2, h3, h4, h5, f1, f2, hlen, ez, h_, go_sem, Int.reduceTMod, Int.reduceTDiv, Int.reduceDiv, Int.reduceMod, Int.reduceAdd, Int.reduceSub, Int.reduceMul, Int.reduceNeg, Int.reducePow, Int.reduceEq, ↓reduceIte, Nat.reduceEqDiff, Nat.reduceAdd, Nat.reduceMul, Nat.reduceLeDiff, Nat.reduceSub, Nat.reduceLT, Int.reduceToNat, Int.reduceLT, Int.reduceLE, reduceCtorEq]))
          all_goals simp [*]
        · rw [if_neg g1] at hR
          have g23 : p.k = 2 ∨ p.k = 3 := by omega
          have vS := v_CheckStops (.one p.st) l
          rw [hR]
          cases hc : p.cz
          · rcases g23 with g2 | g2
            · skip
              try simp only [r11_0, r11_1, r11_2, r11_3, r11_4, r11_5, r11_6, r11_7, r11_8, r11_9, r11_10, r11_11, r11_12, c11, F11, g2, h1, h2, h3, h4, h5, f1, f2, hlen, ez, hc, go_sem, Int.reduceTMod, Int.reduceTDiv, Int.reduceDiv, Int.reduceMod, Int.reduceAdd, Int.reduceSub, Int.reduceMul, Int.reduceNeg, Int.reducePow, Int.reduceEq, ↓reduceIte, Nat.reduceEqDiff, Nat.reduceAdd, Nat.reduceMul, Nat.reduceLeDiff, Nat.reduceSub, Nat.reduceLT, Int.reduceToNat, Int.reduceLT, Int.reduceLE, reduceCtorEq]
              repeat' ((first | refine FK_split (fun h_ => ?_) (fun h_ => ?_) | refine GK_split (fun h_ => ?_) (fun h_ => ?_) | refine ite_both (fun h_ => ?_) (fun h_ => ?_)) <;> (try simp only [decide_eq_true_eq, decide_eq_false_iff_not, Bool.not_true, Bool.not_false, Bool.not_eq_true', Bool.not_eq_false', Bool.not_eq_eq_eq_not, Decidable.not_not] at h_) <;> (try simp only [r11_0, r11_1, r11_2, r11_3, r11_4, r11_5, r11_6, r11_7, r11_8, r11_9, r11_10, r11_11, r11_12, c11, F11, g2, h1, h2, h3, h4, h5, f1, f2, hlen, ez, hc, h_, go_sem, Int.reduceTMod, Int.reduceTDiv, Int.reduceDiv, Int.reduceMod, Int.reduceAdd, Int.reduceSub, Int.reduceMul, Int.reduceNeg, Int.reducePow, Int.reduceEq, ↓reduceIte, Nat.reduceEqDiff, Nat.reduceAdd, Nat.reduceMul, Nat.reduceLeDiff, Nat.reduceSub, Nat.reduceLT, Int.reduceToNat, Int.reduceLT, Int.reduceLE, reduceCtorEq]))
              all_goals simp [*]
            · skip
              try simp only [r11_0, r11_1, r11_2, r11_3, r11_4, r11_5, r11_6, r11_7, r11_8, r11_9, r11_10, r11_11, r11_12, c11, F11, g2, h1, h2, h3, h4, h5, f1, f2, hlen, ez, hc, go_sem, Int.reduceTMod, Int.reduceTDiv, Int.reduceDiv, Int.reduceMod, Int.reduceAdd, Int.reduceSub, Int.reduceMul, Int.reduceNeg, Int.reducePow, Int.reduceEq, ↓reduceIte, Nat.reduceEqDiff, Nat.reduceAdd, Nat.reduceMul, Nat.reduceLeDiff, Nat.reduceSub, Nat.reduceLT, Int.reduceToNat, Int.reduceLT, Int.reduceLE, reduceCtorEq]
              repeat' ((first | refine FK_split (fun h_ => ?_) (fun h_ => ?_) | refine GK_split (fun h_ => ?_) (fun h_ => ?_) | refine ite_both (fun h_ => ?_) (fun h_ => ?_)) <;> (try simp only [decide_eq_true_eq, decide_eq_false_iff_not, Bool.not_true, Bool.not_false, Bool.not_eq_true', Bool.not_eq_false', Bool.not_eq_eq_eq_not, Decidable.not_not] at h_) <;> (try simp only [r11_0, r11_1, r11_2, r11_3, r11_4, r11_5, r11_6, r11_7, r11_8, r11_9, r11_10, r11_11, r11_12, c11, F11, g2, h1, h2, h3, h4, h5, f1, f2, hlen, ez, hc, h_, go_sem, Int.reduceTMod, Int.reduceTDiv, Int.reduceDiv, Int.reduceMod, Int.reduceAdd, Int.reduceSub, Int.reduceMul, Int.reduceNeg, Int.reducePow, Int.reduceEq, ↓reduceIte, Nat.reduceEqDiff, Nat.reduceAdd, Nat.reduceMul, Nat.reduceLeDiff, Nat.reduceSub, Nat.reduceLT, Int.reduceToNat, Int.reduceLT, Int.reduceLE, reduceCtorEq]))
              all_goals simp [*]
          · rw [cz_cr hc] at h5
            have vS : ∀ b, callF TA 32 [.one p.st] (frz (upd m n (some b))) (n + 1) = some (RI (if stopsB l = true then 0 else 30)) := fun b => v_CheckStops _ _ _ _ (RL.frz (hr.keep (by omega) (fun id hid => upd_ne _ _ (by omega)))) hl
            rcases g23 with g2 | g2
            · skip
              try simp only [r11_0, r11_1, r11_2, r11_3, r11_4, r11_5, r11_6, r11_7, r11_8, r11_9, r11_10, r11_11, r11_12, c11, F11, g2, h1, h2, h3, h4, h5, f1, f2, hlen, ez, hc, vS, go_sem, Int.reduceTMod, Int.reduceTDiv, Int.reduceDiv, Int.reduceMod, Int.reduceAdd, Int.reduceSub, Int.reduceMul, Int.reduceNeg, Int.reducePow, Int.reduceEq, ↓reduceIte, Nat.reduceEqDiff, Nat.reduceAdd, Nat.reduceMul, Nat.reduceLeDiff, Nat.reduceSub, Nat.reduceLT, Int.reduceToNat, Int.reduceLT, Int.reduceLE, reduceCtorEq]
              repeat' ((first | refine FK_split (fun h_ => ?_) (fun h_ => ?_) | refine GK_split (fun h_ => ?_) (fun h_ => ?_) | refine ite_both (fun h_ => ?_) (fun h_ => ?_)) <;> (try simp only [decide_eq_true_eq, decide_eq_false_iff_not, Bool.not_true, Bool.not_false, Bool.not_eq_true', Bool.not_eq_false', Bool.not_eq_eq_eq_not, Decidable.not_not] at h_) <;> (try simp only [r11_0, r11_1, r11_2, r11_3, r11_4, r11_5, r11_6, r11_7, r11_8, r11_9, r11_10, r11_11, r11_12, c11, F11, g2, h1, h2, h3, h4, h5, f1, f2, hlen, ez, hc, vS, h_, go_sem, Int.reduceTMod, Int.reduceTDiv, Int.reduceDiv, Int.reduceMod, Int.reduceAdd, Int.reduceSub, Int.reduceMul, Int.reduceNeg, Int.reducePow, Int.reduceEq, ↓reduceIte, Nat.reduceEqDiff, Nat.reduceAdd, Nat.reduceMul, Nat.reduceLeDiff, Nat.reduceSub, Nat.reduceLT, Int.reduceToNat, Int.reduceLT, Int.reduceLE, reduceCtorEq]))
              all_goals simp [*]
            · skip
              try simp only [r11_0, r11_1, r11_2, r11_3, r11_4, r11_5, r11_6, r11_7, r11_8, r11_9, r11_10, r11_11, r11_12, c11, F11, g2, h1, h2, h3, h4, h5, f1, f2, hlen, ez, hc, vS, go_sem, Int.reduceTMod, Int.reduceTDiv, Int.reduceDiv, Int.reduceMod, Int.reduceAdd, Int.reduceSub, Int.reduceMul, Int.reduceNeg, Int.reducePow, Int.reduceEq, ↓reduceIte, Nat.reduceEqDiff, Nat.reduceAdd, Nat.reduceMul, Nat.reduceLeDiff, Nat.reduceSub, Nat.reduceLT, Int.reduceToNat, Int.reduceLT, Int.reduceLE, reduceCtorEq]
              repeat' ((first | refine FK_split (fun h_ => ?_) (fun h_ => ?_) | refine GK_split (fun h_ => ?_) (fun h_ => ?_) | refine ite_both (fun h_ => ?_) (fun h_ => ?_)) <;> (try simp only [decide_eq_true_eq, decide_eq_false_iff_not, Bool.not_true, Bool.not_false, Bool.not_eq_true', Bool.not_eq_false', Bool.not_eq_eq_eq_not, Decidable.not_not] at h_) <;> (try simp only [r11_0, r11_1, r11_2, r11_3, r11_4, r11_5, r11_6, r11_7, r11_8, r11_9, r11_10, r11_11, r11_12, c11, F11, g2, h1, h2, h3, h4, h5, f1, f2, hlen, ez, hc, vS, h_, go_sem, Int.reduceTMod, Int.reduceTDiv, Int.reduceDiv, Int.reduceMod, Int.reduceAdd, Int.reduceSub, Int.reduceMul, Int.reduceNeg, Int.reducePow, Int.reduceEq, ↓reduceIte, Nat.reduceEqDiff, Nat.reduceAdd, Nat.reduceMul, Nat.reduceLeDiff, Nat.reduceSub, Nat.reduceLT, Int.reduceToNat, Int.reduceLT, Int.reduceLE, reduceCtorEq]))
              all_goals simp [*]
/-- Are two paints one? -/
def paiB (p o : Pai) (l k : List Stp) : Bool := decide (p.k = o.k) && ((p.c0 == o.c0 && (p.c1 == o.c1 && (p.c2 == o.c2 && p.c3 == o.c3))) && ((p.fx == o.fx && p.fy == o.fy) && ((p.tx == o.tx && p.ty == o.ty) && decide (l = k))))
theorem v_PEqual (p o : Pai) (l k : List Stp) (m : Mem) (n : Nat) (h1 : RSt m n (.one p.st) l) (h2 : RSt m n (.one o.st) k) (hl : l.length < 4294967296) : callF TA 12 [.agg p.cs, .agg o.cs] m n = some (RB (paiB p o l k)) := by
  refine callF_of (Fn_ofK (fn := F12) rfl (by simp [F12]) ?_)
  have vS : ∀ b b', callF TA 33 [.one p.st, .one o.st] (frz (upd (upd m n (some b)) (n + 1) (some b'))) (n + 2) = some (RB (decide (l = k))) := fun b b' =>
    v_EqS _ _ _ _ _ _ (RL.frz (h1.keep (by omega) (fun id hid => by rw [upd_ne _ _ (by omega), upd_ne _ _ (by omega)]))) (RL.frz (h2.keep (by omega) (fun id hid => by rw [upd_ne _ _ (by omega), upd_ne _ _ (by omega)]))) hl
  unfold paiB
  by_cases a1 : p.k = o.k
  · cases a2 : (p.c0 == o.c0 && (p.c1 == o.c1 && (p.c2 == o.c2 && p.c3 == o.c3)))
    · skip
      try simp only [r12_0, r12_1, c12, F12, a1, a2, go_sem, Int.reduceTMod, Int.reduceTDiv, Int.reduceDiv, Int.reduceMod, Int.reduceAdd, Int.reduceSub, Int.reduceMul, Int.reduceNeg, Int.reducePow, Int.reduceEq, ↓reduceIte, Nat.reduceEqDiff, Nat.reduceAdd, Nat.reduceMul, Nat.reduceLeDiff, Nat.reduceSub, Nat.reduceLT, Int.reduceToNat, Int.reduceLT, Int.reduceLE, reduceCtorEq]
      repeat' ((first | refine FK_split (fun h_ => ?_) (fun h_ => ?_) | refine GK_split (fun h_ => ?_) (fun h_ => ?_) | refine ite_both (fun h_ => ?_) (fun h_ => ?_)) <;> (try simp only [decide_eq_true_eq, decide_eq_false_iff_not, Bool.not_true, Bool.not_false, Bool.not_eq_true', Bool.not_eq_false', Bool.not_eq_eq_eq_not, Decidable.not_not] at h_) <;> (try simp only [r12_0, r12_1, c12, F12, a1, a2, h_, go_sem, Int.reduceTMod, Int.reduceTDiv, Int.reduceDiv, Int.reduceMod, Int.reduceAdd, Int.reduceSub, Int.reduceMul, Int.reduceNeg, Int.reducePow, Int.reduceEq, ↓reduceIte, Nat.reduceEqDiff, Nat.reduceAdd, Nat.reduceMul, Nat.reduceLeDiff, Nat.reduceSub, Nat.reduceLT, Int.reduceToNat, Int.reduceLT, Int.reduceLE, reduceCtorEq]))
    · cases a3 : (p.fx == o.fx && p.fy == o.fy)
      · skip
        try simp only [r12_0, r12_1, c12, F12, a1, a2, a3, go_sem, Int.reduceTMod, Int.reduceTDiv, Int.reduceDiv, Int.reduceMod, Int.reduceAdd, Int.reduceSub, Int.reduceMul, Int.reduceNeg, Int.reducePow, Int.reduceEq, ↓reduceIte, Nat.reduceEqDiff, Nat.reduceAdd, Nat.reduceMul, Nat.reduceLeDiff, Nat.reduceSub, Nat.reduceLT, Int.reduceToNat, Int.reduceLT, Int.reduceLE, reduceCtorEq]
        repeat' ((first | refine FK_split (fun h_ => ?_) (fun h_ => ?_) | refine GK_split (fun h_ => ?_) (fun h_ => ?_) | refine ite_both (fun h_ => ?_) (fun h_ => ?_)) <;> (try simp only [decide_eq_true_eq, decide_eq_false_iff_not, Bool.not_true, Bool.not_false, Bool.not_eq_true', Bool.not_eq_false', Bool.not_eq_eq_eq_not, Decidable.not_not] at h_) <;> (try simp only [r12_0, r12_1, c12, F12, a1, a2, a3, h_, go_sem, Int.reduceTMod, Int.reduceTDiv, Int.reduceDiv, Int.reduceMod, Int.reduceAdd, Int.reduceSub, Int.reduceMul, Int.reduceNeg, Int.reducePow, Int.reduceEq, ↓reduceIte, Nat.reduceEqDiff, Nat.reduceAdd, Nat.reduceMul, Nat.reduceLeDiff, Nat.reduceSub, Nat.reduceLT, Int.reduceToNat, Int.reduceLT, Int.reduceLE, reduceCtorEq]))
      · cases a4 : (p.tx == o.tx && p.ty == o.ty)
        · skip
          try simp only [r12_0, r12_1, c12, F12, a1, a2, a3, a4, go_sem, Int.reduceTMod, Int.reduceTDiv, Int.reduceDiv, Int.reduceMod, Int.reduceAdd, Int.reduceSub, Int.reduceMul, Int.reduceNeg, Int.reducePow, Int.reduceEq, ↓reduceIte, Nat.reduceEqDiff, Nat.reduceAdd, Nat.reduceMul, Nat.reduceLeDiff, Nat.reduceSub, Nat.reduceLT, Int.reduceToNat, Int.reduceLT, Int.reduceLE, reduceCtorEq]
          repeat' ((first | refine FK_split (fun h_ => ?_) (fun h_ => ?_) | refine GK_split (fun h_ => ?_) (fun h_ => ?_) | refine ite_both (fun h_ => ?_) (fun h_ => ?_)) <;> (try simp only [decide_eq_true_eq, decide_eq_false_iff_not, Bool.not_true, Bool.not_false, Bool.not_eq_true', Bool.not_eq_false', Bool.not_eq_eq_eq_not, Decidable.not_not] at h_) <;> (try simp only [r12_0, r12_1, c12, F12, a1, a2, a3, a4, h_, go_sem, Int.reduceTMod, Int.reduceTDiv, Int.reduceDiv, Int.reduceMod, Int.reduceAdd, Int.reduceSub, Int.reduceMul, Int.reduceNeg, Int.reducePow, Int.reduceEq, ↓reduceIte, Nat.reduceEqDiff, Nat.reduceAdd, Nat.reduceMul, Nat.reduceLeDiff, Nat.reduceSub, Nat.reduceLT, Int.reduceToNat, Int.reduceLT, Int.reduceLE, reduceCtorEq]))
        · skip
          try simp only [r12_0, r12_1, c12, F12, a1, a2, a3, a4, vS, go_sem, Int.reduceTMod, Int.reduceTDiv, Int.reduceDiv, Int.reduceMod, Int.reduceAdd, Int.reduceSub, Int.reduceMul, Int.reduceNeg, Int.reducePow, Int.reduceEq, ↓reduceIte, Nat.reduceEqDiff, Nat.reduceAdd, Nat.reduceMul, Nat.reduceLeDiff, Nat.reduceSub, Nat.reduceLT, Int.reduceToNat, Int.reduceLT, Int.reduceLE, reduceCtorEq]
          repeat' ((first | refine FK_split (fun h_ => ?_) (fun h_ => ?_) | refine GK_split (fun h_ => ?_) (fun h_ => ?_) | refine ite_both (fun h_ => ?_) (fun h_ => ?_)) <;> (try simp only [decide_eq_true_eq, decide_eq_false_iff_not, Bool.not_true, Bool.not_false, Bool.not_eq_true', Bool.not_eq_false', Bool.not_eq_eq_eq_not, Decidable.not_not] at h_) <;> (try simp only [r12_0, r12_1, c12, F12, a1, a2, a3, a4, vS, h_, go_sem, Int.reduceTMod, Int.reduceTDiv, Int.reduceDiv, Int.reduceMod, Int.reduceAdd, Int.reduceSub, Int.reduceMul, Int.reduceNeg, Int.reducePow, Int.reduceEq, ↓reduceIte, Nat.reduceEqDiff, Nat.reduceAdd, Nat.reduceMul, Nat.reduceLeDiff, Nat.reduceSub, Nat.reduceLT, Int.reduceToNat, Int.reduceLT, Int.reduceLE, reduceCtorEq]))
  · skip
    try simp only [r12_0, r12_1, c12, F12, a1, go_sem, Int.reduceTMod, Int.reduceTDiv, Int.reduceDiv, Int.reduceMod, Int.reduceAdd, Int.reduceSub, Int.reduceMul, Int.reduceNeg, Int.reducePow, Int.reduceEq, ↓reduceIte, Nat.reduceEqDiff, Nat.reduceAdd, Nat.reduceMul, Nat.reduceLeDiff, Nat.reduceSub, Nat.reduceLT, Int.reduceToNat, Int.reduceLT, Int.reduceLE, reduceCtorEq]
    repeat' ((first | refine FK_split (fun h_ => ?_) (fun h_ => ?_) | refine GK_split (fun h_ => ?_) (fun h_ => ?_) | refine ite_both (fun h_ => ?_) (fun h_ => ?_)) <;> (try simp only [decide_eq_true_eq, decide_eq_false_iff_not, Bool.not_true, Bool.not_false, Bool.not_eq_true', Bool.not_eq_false', Bool.not_eq_eq_eq_not, Decidable.not_not] at h_) <;> (try simp only [r12_0, r12_1, c12, F12, a1, h_, go_sem, Int.reduceTMod, Int.reduceTDiv, Int.reduceDiv, Int.reduceMod, Int.reduceAdd, Int.reduceSub, Int.reduceMul, Int.reduceNeg, Int.reducePow, Int.reduceEq, ↓reduceIte, Nat.reduceEqDiff, Nat.reduceAdd, Nat.reduceMul, Nat.reduceLeDiff, Nat.reduceSub, Nat.reduceLT, Int.reduceToNat, Int.reduceLT, Int.reduceLE, reduceCtorEq]))

/- Styles: compared, checked. Conditions: those that each theorem names. -/
open Go Go.Proofs
set_option linter.unusedSimpArgs false
set_option linter.unusedVariables false

structure Sty where
  fill : Pai
  pen : Pai
  rule : Int
  half : Int
  cap : Int
  dl : Cell
  ph : Int
  op : Int
  mode : Int
abbrev Sty.cs (s : Sty) : List Cell := [I s.fill.k, U8 s.fill.c0, U8 s.fill.c1, U8 s.fill.c2, U8 s.fill.c3, I s.fill.fx, I s.fill.fy, I s.fill.tx, I s.fill.ty, s.fill.st,
  I s.pen.k, U8 s.pen.c0, U8 s.pen.c1, U8 s.pen.c2, U8 s.pen.c3, I s.pen.fx, I s.pen.fy, I s.pen.tx, I s.pen.ty, s.pen.st, I s.rule, I s.half, I s.cap, s.dl, I s.ph, I s.op, I s.mode]
/-- What lies below n is as_ it was. -/
def FrB (n : Nat) (m M : Mem) : Prop := ∀ id, id < n → M id = m id
theorem FrB_refl (n : Nat) (m : Mem) : FrB n m m = True := eq_true fun _ _ => rfl
theorem FrB_upd (n k : Nat) (m M : Mem) (b : Option Blk) : FrB n m (upd M (n + k) b) = FrB n m M := by
  apply propext
  constructor
  · intro h id hid
    have := h id hid
    rwa [upd_ne _ _ (by omega)] at this
  · intro h id hid
    rw [upd_ne _ _ (by omega)]
    exact h id hid
theorem FrB_upd0 (n : Nat) (m M : Mem) (b : Option Blk) : FrB n m (upd M n b) = FrB n m M := FrB_upd n 0 m M b
theorem rl_fr {α : Type} {enc : α → List Cell} {sz n N : Nat} {m M : Mem} {r : Reg} {l : List α} (h : RL enc sz m n r l) (hM : FrB n m M) (hN : n ≤ N) : RL enc sz (frz M) N r l := (h.keep hN hM).frz
structure SRel (m : Mem) (n : Nat) (s : Sty) (lf lp : List Stp) (ld : List Int) : Prop where
  f : RSt m n (.one s.fill.st) lf
  p : RSt m n (.one s.pen.st) lp
  d : RIn m n (.one s.dl) ld
theorem SRel.keep {m m' : Mem} {n n' : Nat} {s : Sty} {lf lp : List Stp} {ld : List Int} (h : SRel m n s lf lp ld) (hn : n ≤ n') (hm : ∀ id, id < n → m' id = m id) : SRel m' n' s lf lp ld := ⟨h.f.keep hn hm, h.p.keep hn hm, h.d.keep hn hm⟩
theorem SRel.frz {m : Mem} {n : Nat} {s : Sty} {lf lp : List Stp} {ld : List Int} (h : SRel m n s lf lp ld) : SRel (frz m) n s lf lp ld := ⟨RL.frz h.f, RL.frz h.p, RL.frz h.d⟩
def styB (s o : Sty) (lf lf' lp lp' : List Stp) (ld ld' : List Int) : Bool := paiB s.fill o.fill lf lf' && (paiB s.pen o.pen lp lp' && (decide (s.rule = o.rule) && (decide (s.half = o.half) && (decide (s.cap = o.cap) && (decide (ld = ld') && (decide (s.ph = o.ph) && (decide (s.op = o.op) && decide (s.mode = o.mode))))))))
theorem v_SEqual (s o : Sty) (lf lf' lp lp' : List Stp) (ld ld' : List Int) (m : Mem) (n : Nat) (h1 : SRel m n s lf lp ld) (h2 : SRel m n o lf' lp' ld') (l1 : lf.length < 4294967296) (l2 : lp.length < 4294967296) (l3 : ld.length < 4294967296) :
    callF TA 21 [.agg s.cs, .agg o.cs] m n = some (RB (styB s o lf lf' lp lp' ld ld')) := by
  refine callF_of (Fn_ofK (fn := F21) rfl (by simp [F21]) ?_)
  have v1 := fun M N (hM : FrB n m M) (hN : n ≤ N) => v_PEqual s.fill o.fill lf lf' (frz M) N (rl_fr h1.f hM hN) (rl_fr h2.f hM hN) l1
  have v2 := fun M N (hM : FrB n m M) (hN : n ≤ N) => v_PEqual s.pen o.pen lp lp' (frz M) N (rl_fr h1.p hM hN) (rl_fr h2.p hM hN) l2
  have v3 := fun M N (hM : FrB n m M) (hN : n ≤ N) => v_EqI (.one s.dl) (.one o.dl) ld ld' (frz M) N (rl_fr h1.d hM hN) (rl_fr h2.d hM hN) l3
  unfold styB
  cases a1 : paiB s.fill o.fill lf lf' <;> rw [a1] at v1
  · skip
    try simp only [r21_0, r21_1, c21, F21, v1, FrB_refl, FrB_upd, FrB_upd0, Nat.le_add_right, go_sem, Int.reduceTMod, Int.reduceTDiv, Int.reduceDiv, Int.reduceMod, Int.reduceAdd, Int.reduceSub, Int.reduceMul, Int.reduceNeg, Int.reducePow, Int.reduceEq, ↓reduceIte, Nat.reduceEqDiff, Nat.reduceAdd, Nat.reduceMul, Nat.reduceLeDiff, Nat.reduceSub, Nat.reduceLT, Int.reduceToNat, Int.reduceLT, Int.reduceLE, reduceCtorEq]
    repeat' ((first | refine FK_split (fun h_ => ?_) (fun h_ => ?_) | refine GK_split (fun h_ => ?_) (fun h_ => ?_) | refine ite_both (fun h_ => ?_) (fun h_ => ?_)) <;> (try simp only [decide_eq_true_eq, decide_eq_false_iff_not, Bool.not_true, Bool.not_false, Bool.not_eq_true', Bool.not_eq_false', Bool.not_eq_eq_eq_not, Decidable.not_not] at h_) <;> (try simp only [r21_0, r21_1, c21, F21, v1, FrB_refl, FrB_upd, FrB_upd0, Nat.le_add_right, h_, go_sem, Int.reduceTMod, Int.reduceTDiv, Int.reduceDiv, Int.reduceMod, Int.reduceAdd, Int.reduceSub, Int.reduceMul, Int.reduceNeg, Int.reducePow, Int.reduceEq, ↓reduceIte, Nat.reduceEqDiff, Nat.reduceAdd, Nat.reduceMul, Nat.reduceLeDiff, Nat.reduceSub, Nat.reduceLT, Int.reduceToNat, Int.reduceLT, Int.reduceLE, reduceCtorEq]))
  · cases a2 : paiB s.pen o.pen lp lp' <;> rw [a2] at v2
    · skip
      try simp only [r21_0, r21_1, c21, F21, v1, v2, FrB_refl, FrB_upd, FrB_upd0, Nat.le_add_right, go_sem, Int.reduceTMod, Int.reduceTDiv, Int.reduceDiv, Int.reduceMod, Int.reduceAdd, Int.reduceSub, Int.reduceMul, Int.reduceNeg, Int.reducePow, Int.reduceEq, ↓reduceIte, Nat.reduceEqDiff, Nat.reduceAdd, Nat.reduceMul, Nat.reduceLeDiff, Nat.reduceSub, Nat.reduceLT, Int.reduceToNat, Int.reduceLT, Int.reduceLE, reduceCtorEq]
      repeat' ((first | refine FK_split (fun h_ => ?_) (fun h_ => ?_) | refine GK_split (fun h_ => ?_) (fun h_ => ?_) | refine ite_both (fun h_ => ?_) (fun h_ => ?_)) <;> (try simp only [decide_eq_true_eq, decide_eq_false_iff_not, Bool.not_true, Bool.not_false, Bool.not_eq_true', Bool.not_eq_false', Bool.not_eq_eq_eq_not, Decidable.not_not] at h_) <;> (try simp only [r21_0, r21_1, c21, F21, v1, v2, FrB_refl, FrB_upd, FrB_upd0, Nat.le_add_right, h_, go_sem, Int.reduceTMod, Int.reduceTDiv, Int.reduceDiv, Int.reduceMod, Int.reduceAdd, Int.reduceSub, Int.reduceMul, Int.reduceNeg, Int.reducePow, Int.reduceEq, ↓reduceIte, Nat.reduceEqDiff, Nat.reduceAdd, Nat.reduceMul, Nat.reduceLeDiff, Nat.reduceSub, Nat.reduceLT, Int.reduceToNat, Int.reduceLT, Int.reduceLE, reduceCtorEq]))
    · by_cases a3 : s.rule = o.rule
      · by_cases a4 : s.half = o.half
        · by_cases a5 : s.cap = o.cap
          · cases a6 : decide (ld = ld') <;> rw [a6] at v3
            · skip
              try simp only [r21_0, r21_1, c21, F21, v1, v2, v3, a3, a4, a5, FrB_refl, FrB_upd, FrB_upd0, Nat.le_add_right, go_sem, Int.reduceTMod, Int.reduceTDiv, Int.reduceDiv, Int.reduceMod, Int.reduceAdd, Int.reduceSub, Int.reduceMul, Int.reduceNeg, Int.reducePow, Int.reduceEq, ↓reduceIte, Nat.reduceEqDiff, Nat.reduceAdd, Nat.reduceMul, Nat.reduceLeDiff, Nat.reduceSub, Nat.reduceLT, Int.reduceToNat, Int.reduceLT, Int.reduceLE, reduceCtorEq]
              repeat' ((first | refine FK_split (fun h_ => ?_) (fun h_ => ?_) | refine GK_split (fun h_ => ?_) (fun h_ => ?_) | refine ite_both (fun h_ => ?_) (fun h_ => ?_)) <;> (try simp only [decide_eq_true_eq, decide_eq_false_iff_not, Bool.not_true, Bool.not_false, Bool.not_eq_true', Bool.not_eq_false', Bool.not_eq_eq_eq_not, Decidable.not_not] at h_) <;> (try simp only [r21_0, r21_1, c21, F21, v1, v2, v3, a3, a4, a5, FrB_refl, FrB_upd, FrB_upd0, Nat.le_add_right, h_, go_sem, Int.reduceTMod, Int.reduceTDiv, Int.reduceDiv, Int.reduceMod, Int.reduceAdd, Int.reduceSub, Int.reduceMul, Int.reduceNeg, Int.reducePow, Int.reduceEq, ↓reduceIte, Nat.reduceEqDiff, Nat.reduceAdd, Nat.reduceMul, Nat.reduceLeDiff, Nat.reduceSub, Nat.reduceLT, Int.reduceToNat, Int.reduceLT, Int.reduceLE, reduceCtorEq]))
            · by_cases a7 : s.ph = o.ph
              · by_cases a8 : s.op = o.op
                · skip
                  try simp only [r21_0, r21_1, c21, F21, v1, v2, v3, a3, a4, a5, a7, a8, FrB_refl, FrB_upd, FrB_upd0, Nat.le_add_right, go_sem, Int.reduceTMod, Int.reduceTDiv, Int.reduceDiv, Int.reduceMod, Int.reduceAdd, Int.reduceSub, Int.reduceMul, Int.reduceNeg, Int.reducePow, Int.reduceEq, ↓reduceIte, Nat.reduceEqDiff, Nat.reduceAdd, Nat.reduceMul, Nat.reduceLeDiff, Nat.reduceSub, Nat.reduceLT, Int.reduceToNat, Int.reduceLT, Int.reduceLE, reduceCtorEq]
                  repeat' ((first | refine FK_split (fun h_ => ?_) (fun h_ => ?_) | refine GK_split (fun h_ => ?_) (fun h_ => ?_) | refine ite_both (fun h_ => ?_) (fun h_ => ?_)) <;> (try simp only [decide_eq_true_eq, decide_eq_false_iff_not, Bool.not_true, Bool.not_false, Bool.not_eq_true', Bool.not_eq_false', Bool.not_eq_eq_eq_not, Decidable.not_not] at h_) <;> (try simp only [r21_0, r21_1, c21, F21, v1, v2, v3, a3, a4, a5, a7, a8, FrB_refl, FrB_upd, FrB_upd0, Nat.le_add_right, h_, go_sem, Int.reduceTMod, Int.reduceTDiv, Int.reduceDiv, Int.reduceMod, Int.reduceAdd, Int.reduceSub, Int.reduceMul, Int.reduceNeg, Int.reducePow, Int.reduceEq, ↓reduceIte, Nat.reduceEqDiff, Nat.reduceAdd, Nat.reduceMul, Nat.reduceLeDiff, Nat.reduceSub, Nat.reduceLT, Int.reduceToNat, Int.reduceLT, Int.reduceLE, reduceCtorEq]))
                · skip
                  try simp only [r21_0, r21_1, c21, F21, v1, v2, v3, a3, a4, a5, a7, a8, FrB_refl, FrB_upd, FrB_upd0, Nat.le_add_right, go_sem, Int.reduceTMod, Int.reduceTDiv, Int.reduceDiv, Int.reduceMod, Int.reduceAdd, Int.reduceSub, Int.reduceMul, Int.reduceNeg, Int.reducePow, Int.reduceEq, ↓reduceIte, Nat.reduceEqDiff, Nat.reduceAdd, Nat.reduceMul, Nat.reduceLeDiff, Nat.reduceSub, Nat.reduceLT, Int.reduceToNat, Int.reduceLT, Int.reduceLE, reduceCtorEq]
                  repeat' ((first | refine FK_split (fun h_ => ?_) (fun h_ => ?_) | refine GK_split (fun h_ => ?_) (fun h_ => ?_) | refine ite_both (fun h_ => ?_) (fun h_ => ?_)) <;> (try simp only [decide_eq_true_eq, decide_eq_false_iff_not, Bool.not_true, Bool.not_false, Bool.not_eq_true', Bool.not_eq_false', Bool.not_eq_eq_eq_not, Decidable.not_not] at h_) <;> (try simp only [r21_0, r21_1, c21, F21, v1, v2, v3, a3, a4, a5, a7, a8, FrB_refl, FrB_upd, FrB_upd0, Nat.le_add_right, h_, go_sem, Int.reduceTMod, Int.reduceTDiv, Int.reduceDiv, Int.reduceMod, Int.reduceAdd, Int.reduceSub, Int.reduceMul, Int.reduceNeg, Int.reducePow, Int.reduceEq, ↓reduceIte, Nat.reduceEqDiff, Nat.reduceAdd, Nat.reduceMul, Nat.reduceLeDiff, Nat.reduceSub, Nat.reduceLT, Int.reduceToNat, Int.reduceLT, Int.reduceLE, reduceCtorEq]))
              · skip
                try simp only [r21_0, r21_1, c21, F21, v1, v2, v3, a3, a4, a5, a7, FrB_refl, FrB_upd, FrB_upd0, Nat.le_add_right, go_sem, Int.reduceTMod, Int.reduceTDiv, Int.reduceDiv, Int.reduceMod, Int.reduceAdd, Int.reduceSub, Int.reduceMul, Int.reduceNeg, Int.reducePow, Int.reduceEq, ↓reduceIte, Nat.reduceEqDiff, Nat.reduceAdd, Nat.reduceMul, Nat.reduceLeDiff, Nat.reduceSub, Nat.reduceLT, Int.reduceToNat, Int.reduceLT, Int.reduceLE, reduceCtorEq]
                repeat' ((first | refine FK_split (fun h_ => ?_) (fun h_ => ?_) | refine GK_split (fun h_ => ?_) (fun h_ => ?_) | refine ite_both (fun h_ => ?_) (fun h_ => ?_)) <;> (try simp only [decide_eq_true_eq, decide_eq_false_iff_not, Bool.not_true, Bool.not_false, Bool.not_eq_true', Bool.not_eq_false', Bool.not_eq_eq_eq_not, Decidable.not_not] at h_) <;> (try simp only [r21_0, r21_1, c21, F21, v1, v2, v3, a3, a4, a5, a7, FrB_refl, FrB_upd, FrB_upd0, Nat.le_add_right, h_, go_sem, Int.reduceTMod, Int.reduceTDiv, Int.reduceDiv, Int.reduceMod, Int.reduceAdd, Int.reduceSub, Int.reduceMul, Int.reduceNeg, Int.reducePow, Int.reduceEq, ↓reduceIte, Nat.reduceEqDiff, Nat.reduceAdd, Nat.reduceMul, Nat.reduceLeDiff, Nat.reduceSub, Nat.reduceLT, Int.reduceToNat, Int.reduceLT, Int.reduceLE, reduceCtorEq]))
          · skip
            try simp only [r21_0, r21_1, c21, F21, v1, v2, a3, a4, a5, FrB_refl, FrB_upd, FrB_upd0, Nat.le_add_right, go_sem, Int.reduceTMod, Int.reduceTDiv, Int.reduceDiv, Int.reduceMod, Int.reduceAdd, Int.reduceSub, Int.reduceMul, Int.reduceNeg, Int.reducePow, Int.reduceEq, ↓reduceIte, Nat.reduceEqDiff, Nat.reduceAdd, Nat.reduceMul, Nat.reduceLeDiff, Nat.reduceSub, Nat.reduceLT, Int.reduceToNat, Int.reduceLT, Int.reduceLE, reduceCtorEq]
            repeat' ((first | refine FK_split (fun h_ => ?_) (fun h_ => ?_) | refine GK_split (fun h_ => ?_) (fun h_ => ?_) | refine ite_both (fun h_ => ?_) (fun h_ => ?_)) <;> (try simp only [decide_eq_true_eq, decide_eq_false_iff_not, Bool.not_true, Bool.not_false, Bool.not_eq_true', Bool.not_eq_false', Bool.not_eq_eq_eq_not, Decidable.not_not] at h_) <;> (try simp only [r21_0, r21_1, c21, F21, v1, v2, a3, a4, a5, FrB_refl, FrB_upd, FrB_upd0, Nat.le_add_right, h_, go_sem, Int.reduceTMod, Int.reduceTDiv, Int.reduceDiv, Int.reduceMod, Int.reduceAdd, Int.reduceSub, Int.reduceMul, Int.reduceNeg, Int.reducePow, Int.reduceEq, ↓reduceIte, Nat.reduceEqDiff, Nat.reduceAdd, Nat.reduceMul, Nat.reduceLeDiff, Nat.reduceSub, Nat.reduceLT, Int.reduceToNat, Int.reduceLT, Int.reduceLE, reduceCtorEq]))
        · skip
          try simp only [r21_0, r21_1, c21, F21, v1, v2, a3, a4, FrB_refl, FrB_upd, FrB_upd0, Nat.le_add_right, go_sem, Int.reduceTMod, Int.reduceTDiv, Int.reduceDiv, Int.reduceMod, Int.reduceAdd, Int.reduceSub, Int.reduceMul, Int.reduceNeg, Int.reducePow, Int.reduceEq, ↓reduceIte, Nat.reduceEqDiff, Nat.reduceAdd, Nat.reduceMul, Nat.reduceLeDiff, Nat.reduceSub, Nat.reduceLT, Int.reduceToNat, Int.reduceLT, Int.reduceLE, reduceCtorEq]
          repeat' ((first | refine FK_split (fun h_ => ?_) (fun h_ => ?_) | refine GK_split (fun h_ => ?_) (fun h_ => ?_) | refine ite_both (fun h_ => ?_) (fun h_ => ?_)) <;> (try simp only [decide_eq_true_eq, decide_eq_false_iff_not, Bool.not_true, Bool.not_false, Bool.not_eq_true', Bool.not_eq_false', Bool.not_eq_eq_eq_not, Decidable.not_not] at h_) <;> (try simp only [r21_0, r21_1, c21, F21, v1, v2, a3, a4, FrB_refl, FrB_upd, FrB_upd0, Nat.le_add_right, h_, go_sem, Int.reduceTMod, Int.reduceTDiv, Int.reduceDiv, Int.reduceMod, Int.reduceAdd, Int.reduceSub, Int.reduceMul, Int.reduceNeg, Int.reducePow, Int.reduceEq, ↓reduceIte, Nat.reduceEqDiff, Nat.reduceAdd, Nat.reduceMul, Nat.reduceLeDiff, Nat.reduceSub, Nat.reduceLT, Int.reduceToNat, Int.reduceLT, Int.reduceLE, reduceCtorEq]))
      · skip
        try simp only [r21_0, r21_1, c21, F21, v1, v2, a3, FrB_refl, FrB_upd, FrB_upd0, Nat.le_add_right, go_sem, Int.reduceTMod, Int.reduceTDiv, Int.reduceDiv, Int.reduceMod, Int.reduceAdd, Int.reduceSub, Int.reduceMul, Int.reduceNeg, Int.reducePow, Int.reduceEq, ↓reduceIte, Nat.reduceEqDiff, Nat.reduceAdd, Nat.reduceMul, Nat.reduceLeDiff, Nat.reduceSub, Nat.reduceLT, Int.reduceToNat, Int.reduceLT, Int.reduceLE, reduceCtorEq]
        repeat' ((first | refine FK_split (fun h_ => ?_) (fun h_ => ?_) | refine GK_split (fun h_ => ?_) (fun h_ => ?_) | refine ite_both (fun h_ => ?_) (fun h_ => ?_)) <;> (try simp only [decide_eq_true_eq, decide_eq_false_iff_not, Bool.not_true, Bool.not_false, Bool.not_eq_true', Bool.not_eq_false', Bool.not_eq_eq_eq_not, Decidable.not_not] at h_) <;> (try simp only [r21_0, r21_1, c21, F21, v1, v2, a3, FrB_refl, FrB_upd, FrB_upd0, Nat.le_add_right, h_, go_sem, Int.reduceTMod, Int.reduceTDiv, Int.reduceDiv, Int.reduceMod, Int.reduceAdd, Int.reduceSub, Int.reduceMul, Int.reduceNeg, Int.reducePow, Int.reduceEq, ↓reduceIte, Nat.reduceEqDiff, Nat.reduceAdd, Nat.reduceMul, Nat.reduceLeDiff, Nat.reduceSub, Nat.reduceLT, Int.reduceToNat, Int.reduceLT, Int.reduceLE, reduceCtorEq]))
/-- The error's number of a style. -/
def rngP (s : Sty) : Prop := (1 ≤ s.rule ∧ s.rule ≤ 2) ∧ (0 ≤ s.half ∧ s.half ≤ 32768) ∧ (0 ≤ s.cap ∧ s.cap ≤ 2) ∧ (0 ≤ s.op ∧ s.op ≤ 255) ∧ 0 ≤ s.mode ∧ s.mode ≤ 4
instance (s : Sty) : Decidable (rngP s) := by unfold rngP; infer_instance
def styV (s : Sty) (lf lp : List Stp) (ld : List Int) : Int :=
  if rightV s.fill lf ≠ 0 then rightV s.fill lf else if rightV s.pen lp ≠ 0 then rightV s.pen lp else if rngP s then (if rightB ld s.ph = true then 0 else 30) else 30
theorem v_SCheck (s : Sty) (lf lp : List Stp) (ld : List Int) (m : Mem) (n : Nat) (h1 : SRel m n s lf lp ld) (l1 : lf.length < 4294967296) (l2 : lp.length < 4294967296) (l3 : ld.length < 4294967296) :
    callF TA 24 [.agg s.cs] m n = some (RI (styV s lf lp ld)) := by
  refine callF_of (Fn_ofK (fn := F24) rfl (by simp [F24]) ?_)
  have v1 := fun M N (hM : FrB n m M) (hN : n ≤ N) => v_PCheck s.fill lf (frz M) N (rl_fr h1.f hM hN) l1
  have v2 := fun M N (hM : FrB n m M) (hN : n ≤ N) => v_PCheck s.pen lp (frz M) N (rl_fr h1.p hM hN) l2
  have v3 := fun M N (hM : FrB n m M) (hN : n ≤ N) => v_Check s.dl ld s.ph (frz M) N (rl_fr h1.d hM hN) l3
  unfold styV
  by_cases a1 : rightV s.fill lf = 0
  · rw [if_neg (fun h => h a1)]
    rw [a1] at v1
    by_cases a2 : rightV s.pen lp = 0
    · rw [if_neg (fun h => h a2)]
      rw [a2] at v2
      have r15 : List.replicate 15 (I 0) = [I 0, I 0, I 0, I 0, I 0, I 0, I 0, I 0, I 0, I 0, I 0, I 0, I 0, I 0, I 0] := rfl
      by_cases hg : rngP s
      · rw [if_pos hg]
        obtain ⟨⟨b1, b2⟩, ⟨b3, b4⟩, ⟨b5, b6⟩, ⟨b7, b8⟩, b9, b10⟩ := hg
        have c1 : (s.rule < 1) = False := eq_false (by omega)
        have c2 : (2 < s.rule) = False := eq_false (by omega)
        have c3 : (s.half < 0) = False := eq_false (by omega)
        have c4 : (32768 < s.half) = False := eq_false (by omega)
        have c5 : (s.cap < 0) = False := eq_false (by omega)
        have c6 : (2 < s.cap) = False := eq_false (by omega)
        have c7 : (s.op < 0) = False := eq_false (by omega)
        have c8 : (255 < s.op) = False := eq_false (by omega)
        have c9 : (s.mode < 0) = False := eq_false (by omega)
        have c10 : (4 < s.mode) = False := eq_false (by omega)
        try simp only [r24_0, r24_1, r24_2, r24_3, r24_4, r24_5, r24_6, r24_7, r24_8, r24_9, r24_10, r24_11, r24_12, r24_13, r24_14, c24, F24, l24_0, l24_1, XK_loop, r15, v1, v2, v3, c1, c2, c3, c4, c5, c6, c7, c8, c9, c10, FrB_refl, FrB_upd, FrB_upd0, Nat.le_add_right, go_sem, Int.reduceTMod, Int.reduceTDiv, Int.reduceDiv, Int.reduceMod, Int.reduceAdd, Int.reduceSub, Int.reduceMul, Int.reduceNeg, Int.reducePow, Int.reduceEq, ↓reduceIte, Nat.reduceEqDiff, Nat.reduceAdd, Nat.reduceMul, Nat.reduceLeDiff, Nat.reduceSub, Nat.reduceLT, Int.reduceToNat, Int.reduceLT, Int.reduceLE, reduceCtorEq]
        repeat' ((first | refine FK_split (fun h_ => ?_) (fun h_ => ?_) | refine GK_split (fun h_ => ?_) (fun h_ => ?_) | refine ite_both (fun h_ => ?_) (fun h_ => ?_)) <;> (try simp only [decide_eq_true_eq, decide_eq_false_iff_not, Bool.not_true, Bool.not_false, Bool.not_eq_true', Bool.not_eq_false', Bool.not_eq_eq_eq_not, Decidable.not_not] at h_) <;> (try simp only [r24_0, r24_1, r24_2, r24_3, r24_4, r24_5, r24_6, r24_7, r24_8, r24_9, r24_10, r24_11, r24_12, r24_13, r24_14, c24, F24, l24_0, l24_1, XK_loop, r15, v1, v2, v3, c1, c2, c3, c4, c5, c6, c7, c8, c9, c10, FrB_refl, FrB_upd, FrB_upd0, Nat.le_add_right, h_, go_sem, Int.reduceTMod, Int.reduceTDiv, Int.reduceDiv, Int.reduceMod, Int.reduceAdd, Int.reduceSub, Int.reduceMul, Int.reduceNeg, Int.reducePow, Int.reduceEq, ↓reduceIte, Nat.reduceEqDiff, Nat.reduceAdd, Nat.reduceMul, Nat.reduceLeDiff, Nat.reduceSub, Nat.reduceLT, Int.reduceToNat, Int.reduceLT, Int.reduceLE, reduceCtorEq]))
      · rw [if_neg hg]
        try simp only [r24_0, r24_1, r24_2, r24_3, r24_4, r24_5, r24_6, r24_7, r24_8, r24_9, r24_10, r24_11, r24_12, r24_13, r24_14, c24, F24, l24_0, l24_1, XK_loop, r15, v1, v2, v3, FrB_refl, FrB_upd, FrB_upd0, Nat.le_add_right, go_sem, Int.reduceTMod, Int.reduceTDiv, Int.reduceDiv, Int.reduceMod, Int.reduceAdd, Int.reduceSub, Int.reduceMul, Int.reduceNeg, Int.reducePow, Int.reduceEq, ↓reduceIte, Nat.reduceEqDiff, Nat.reduceAdd, Nat.reduceMul, Nat.reduceLeDiff, Nat.reduceSub, Nat.reduceLT, Int.reduceToNat, Int.reduceLT, Int.reduceLE, reduceCtorEq]
        repeat' ((first | refine FK_split (fun h_ => ?_) (fun h_ => ?_) | refine GK_split (fun h_ => ?_) (fun h_ => ?_) | refine ite_both (fun h_ => ?_) (fun h_ => ?_)) <;> (try simp only [decide_eq_true_eq, decide_eq_false_iff_not, Bool.not_true, Bool.not_false, Bool.not_eq_true', Bool.not_eq_false', Bool.not_eq_eq_eq_not, Decidable.not_not] at h_) <;> (try simp only [r24_0, r24_1, r24_2, r24_3, r24_4, r24_5, r24_6, r24_7, r24_8, r24_9, r24_10, r24_11, r24_12, r24_13, r24_14, c24, F24, l24_0, l24_1, XK_loop, r15, v1, v2, v3, FrB_refl, FrB_upd, FrB_upd0, Nat.le_add_right, h_, go_sem, Int.reduceTMod, Int.reduceTDiv, Int.reduceDiv, Int.reduceMod, Int.reduceAdd, Int.reduceSub, Int.reduceMul, Int.reduceNeg, Int.reducePow, Int.reduceEq, ↓reduceIte, Nat.reduceEqDiff, Nat.reduceAdd, Nat.reduceMul, Nat.reduceLeDiff, Nat.reduceSub, Nat.reduceLT, Int.reduceToNat, Int.reduceLT, Int.reduceLE, reduceCtorEq]))
        all_goals exact absurd (by unfold rngP; omega) hg
    · rw [if_pos a2]
      try simp only [r24_0, r24_1, r24_2, r24_3, r24_4, r24_5, r24_6, r24_7, r24_8, r24_9, r24_10, r24_11, r24_12, r24_13, r24_14, c24, F24, l24_0, l24_1, XK_loop, v1, v2, a2, FrB_refl, FrB_upd, FrB_upd0, Nat.le_add_right, go_sem, Int.reduceTMod, Int.reduceTDiv, Int.reduceDiv, Int.reduceMod, Int.reduceAdd, Int.reduceSub, Int.reduceMul, Int.reduceNeg, Int.reducePow, Int.reduceEq, ↓reduceIte, Nat.reduceEqDiff, Nat.reduceAdd, Nat.reduceMul, Nat.reduceLeDiff, Nat.reduceSub, Nat.reduceLT, Int.reduceToNat, Int.reduceLT, Int.reduceLE, reduceCtorEq]
      repeat' ((first | refine FK_split (fun h_ => ?_) (fun h_ => ?_) | refine GK_split (fun h_ => ?_) (fun h_ => ?_) | refine ite_both (fun h_ => ?_) (fun h_ => ?_)) <;> (try simp only [decide_eq_true_eq, decide_eq_false_iff_not, Bool.not_true, Bool.not_false, Bool.not_eq_true', Bool.not_eq_false', Bool.not_eq_eq_eq_not, Decidable.not_not] at h_) <;> (try simp only [r24_0, r24_1, r24_2, r24_3, r24_4, r24_5, r24_6, r24_7, r24_8, r24_9, r24_10, r24_11, r24_12, r24_13, r24_14, c24, F24, l24_0, l24_1, XK_loop, v1, v2, a2, FrB_refl, FrB_upd, FrB_upd0, Nat.le_add_right, h_, go_sem, Int.reduceTMod, Int.reduceTDiv, Int.reduceDiv, Int.reduceMod, Int.reduceAdd, Int.reduceSub, Int.reduceMul, Int.reduceNeg, Int.reducePow, Int.reduceEq, ↓reduceIte, Nat.reduceEqDiff, Nat.reduceAdd, Nat.reduceMul, Nat.reduceLeDiff, Nat.reduceSub, Nat.reduceLT, Int.reduceToNat, Int.reduceLT, Int.reduceLE, reduceCtorEq]))
  · rw [if_pos a1]
    try simp only [r24_0, r24_1, r24_2, r24_3, r24_4, r24_5, r24_6, r24_7, r24_8, r24_9, r24_10, r24_11, r24_12, r24_13, r24_14, c24, F24, l24_0, l24_1, XK_loop, v1, a1, FrB_refl, FrB_upd, FrB_upd0, Nat.le_add_right, go_sem, Int.reduceTMod, Int.reduceTDiv, Int.reduceDiv, Int.reduceMod, Int.reduceAdd, Int.reduceSub, Int.reduceMul, Int.reduceNeg, Int.reducePow, Int.reduceEq, ↓reduceIte, Nat.reduceEqDiff, Nat.reduceAdd, Nat.reduceMul, Nat.reduceLeDiff, Nat.reduceSub, Nat.reduceLT, Int.reduceToNat, Int.reduceLT, Int.reduceLE, reduceCtorEq]
    repeat' ((first | refine FK_split (fun h_ => ?_) (fun h_ => ?_) | refine GK_split (fun h_ => ?_) (fun h_ => ?_) | refine ite_both (fun h_ => ?_) (fun h_ => ?_)) <;> (try simp only [decide_eq_true_eq, decide_eq_false_iff_not, Bool.not_true, Bool.not_false, Bool.not_eq_true', Bool.not_eq_false', Bool.not_eq_eq_eq_not, Decidable.not_not] at h_) <;> (try simp only [r24_0, r24_1, r24_2, r24_3, r24_4, r24_5, r24_6, r24_7, r24_8, r24_9, r24_10, r24_11, r24_12, r24_13, r24_14, c24, F24, l24_0, l24_1, XK_loop, v1, a1, FrB_refl, FrB_upd, FrB_upd0, Nat.le_add_right, h_, go_sem, Int.reduceTMod, Int.reduceTDiv, Int.reduceDiv, Int.reduceMod, Int.reduceAdd, Int.reduceSub, Int.reduceMul, Int.reduceNeg, Int.reducePow, Int.reduceEq, ↓reduceIte, Nat.reduceEqDiff, Nat.reduceAdd, Nat.reduceMul, Nat.reduceLeDiff, Nat.reduceSub, Nat.reduceLT, Int.reduceToNat, Int.reduceLT, Int.reduceLE, reduceCtorEq]))

/- The law StyleChecks walked. Conditions: those that each theorem names. -/
open Go Go.Proofs
set_option linter.unusedSimpArgs false
set_option linter.unusedVariables false

theorem v_awake16 : callF TA 9 [] (fun _ => none) 0 = some (RB true) := callF_closed (k := 80) (by kernel_rfl)
def noP : Pai := ⟨0, 0, 0, 0, 0, 0, 0, 0, 0, .sc (.slice none 0 0)⟩
def noS : Sty := ⟨noP, noP, 1, 0, 0, .sc (.slice none 0 0), 0, 255, 0⟩
theorem w_None (m : Mem) (n : Nat) : Fn TA 23 [] m n (fun r _ _ => r = .agg noS.cs) := by
  refine Fn_ofK (fn := F23) rfl (by simp [F23]) ?_
  unfold noS noP
  try simp only [r23_0, r23_1, c23, F23, go_sem, Int.reduceTMod, Int.reduceTDiv, Int.reduceDiv, Int.reduceMod, Int.reduceAdd, Int.reduceSub, Int.reduceMul, Int.reduceNeg, Int.reducePow, Int.reduceEq, ↓reduceIte, Nat.reduceEqDiff, Nat.reduceAdd, Nat.reduceMul, Nat.reduceLeDiff, Nat.reduceSub, Nat.reduceLT, Int.reduceToNat, Int.reduceLT, Int.reduceLE, reduceCtorEq]
  repeat' ((first | refine FK_split (fun h_ => ?_) (fun h_ => ?_) | refine GK_split (fun h_ => ?_) (fun h_ => ?_) | refine ite_both (fun h_ => ?_) (fun h_ => ?_)) <;> (try simp only [decide_eq_true_eq, decide_eq_false_iff_not, Bool.not_true, Bool.not_false, Bool.not_eq_true', Bool.not_eq_false', Bool.not_eq_eq_eq_not, Decidable.not_not] at h_) <;> (try simp only [r23_0, r23_1, c23, F23, h_, go_sem, Int.reduceTMod, Int.reduceTDiv, Int.reduceDiv, Int.reduceMod, Int.reduceAdd, Int.reduceSub, Int.reduceMul, Int.reduceNeg, Int.reducePow, Int.reduceEq, ↓reduceIte, Nat.reduceEqDiff, Nat.reduceAdd, Nat.reduceMul, Nat.reduceLeDiff, Nat.reduceSub, Nat.reduceLT, Int.reduceToNat, Int.reduceLT, Int.reduceLE, reduceCtorEq]))
theorem v_CheckNone (m : Mem) (n : Nat) : callF TA 24 [.agg noS.cs] m n = some (RI 0) := by
  have h := v_SCheck noS [] [] [] m n ⟨RL.nil, RL.nil, RL.nil⟩ (by decide) (by decide) (by decide)
  rw [h]
  rfl
theorem paiB_self (p : Pai) (l : List Stp) : paiB p p l l = true := by simp [paiB]
theorem styB_self (s : Sty) (lf lp : List Stp) (ld : List Int) : styB s s lf lf lp lp ld ld = true := by simp [styB, paiB_self]
theorem rightV_vals (p : Pai) (l : List Stp) : rightV p l = 0 ∨ rightV p l = 30 ∨ rightV p l = 33 := by
  unfold rightV
  repeat' split
  all_goals simp
set_option maxHeartbeats 4000000 in
theorem law6 (s : Sty) (lf lp : List Stp) (ld : List Int) (m : Mem) (n : Nat) (h1 : SRel m n s lf lp ld) (hf : s.fill.by) (hp : s.pen.by) (bf : ∀ x ∈ lf, x.by) (bp : ∀ x ∈ lp, x.by) : Fn TA 6 [.agg s.cs] m n (fun r _ _ => r = RB true) := by
  refine Fn_ofK (fn := F6) rfl (by simp [F6]) ?_
  have hl1 := h1.f.len
  have hl2 := h1.p.len
  have hl3 := h1.d.len
  by_cases g1 : 60 < (lf.length : Int)
  · skip
    try simp only [r6_0, r6_1, r6_2, r6_3, r6_4, r6_5, r6_6, r6_7, r6_8, r6_9, c6, F6, hl1, g1, v_awake16, go_sem, Int.reduceTMod, Int.reduceTDiv, Int.reduceDiv, Int.reduceMod, Int.reduceAdd, Int.reduceSub, Int.reduceMul, Int.reduceNeg, Int.reducePow, Int.reduceEq, ↓reduceIte, Nat.reduceEqDiff, Nat.reduceAdd, Nat.reduceMul, Nat.reduceLeDiff, Nat.reduceSub, Nat.reduceLT, Int.reduceToNat, Int.reduceLT, Int.reduceLE, reduceCtorEq]
    repeat' ((first | refine FK_split (fun h_ => ?_) (fun h_ => ?_) | refine GK_split (fun h_ => ?_) (fun h_ => ?_) | refine ite_both (fun h_ => ?_) (fun h_ => ?_)) <;> (try simp only [decide_eq_true_eq, decide_eq_false_iff_not, Bool.not_true, Bool.not_false, Bool.not_eq_true', Bool.not_eq_false', Bool.not_eq_eq_eq_not, Decidable.not_not] at h_) <;> (try simp only [r6_0, r6_1, r6_2, r6_3, r6_4, r6_5, r6_6, r6_7, r6_8, r6_9, c6, F6, hl1, g1, v_awake16, h_, go_sem, Int.reduceTMod, Int.reduceTDiv, Int.reduceDiv, Int.reduceMod, Int.reduceAdd, Int.reduceSub, Int.reduceMul, Int.reduceNeg, Int.reducePow, Int.reduceEq, ↓reduceIte, Nat.reduceEqDiff, Nat.reduceAdd, Nat.reduceMul, Nat.reduceLeDiff, Nat.reduceSub, Nat.reduceLT, Int.reduceToNat, Int.reduceLT, Int.reduceLE, reduceCtorEq]))
  · by_cases g2 : 60 < (lp.length : Int)
    · skip
      try simp only [r6_0, r6_1, r6_2, r6_3, r6_4, r6_5, r6_6, r6_7, r6_8, r6_9, c6, F6, hl1, hl2, g1, g2, v_awake16, go_sem, Int.reduceTMod, Int.reduceTDiv, Int.reduceDiv, Int.reduceMod, Int.reduceAdd, Int.reduceSub, Int.reduceMul, Int.reduceNeg, Int.reducePow, Int.reduceEq, ↓reduceIte, Nat.reduceEqDiff, Nat.reduceAdd, Nat.reduceMul, Nat.reduceLeDiff, Nat.reduceSub, Nat.reduceLT, Int.reduceToNat, Int.reduceLT, Int.reduceLE, reduceCtorEq]
      repeat' ((first | refine FK_split (fun h_ => ?_) (fun h_ => ?_) | refine GK_split (fun h_ => ?_) (fun h_ => ?_) | refine ite_both (fun h_ => ?_) (fun h_ => ?_)) <;> (try simp only [decide_eq_true_eq, decide_eq_false_iff_not, Bool.not_true, Bool.not_false, Bool.not_eq_true', Bool.not_eq_false', Bool.not_eq_eq_eq_not, Decidable.not_not] at h_) <;> (try simp only [r6_0, r6_1, r6_2, r6_3, r6_4, r6_5, r6_6, r6_7, r6_8, r6_9, c6, F6, hl1, hl2, g1, g2, v_awake16, h_, go_sem, Int.reduceTMod, Int.reduceTDiv, Int.reduceDiv, Int.reduceMod, Int.reduceAdd, Int.reduceSub, Int.reduceMul, Int.reduceNeg, Int.reducePow, Int.reduceEq, ↓reduceIte, Nat.reduceEqDiff, Nat.reduceAdd, Nat.reduceMul, Nat.reduceLeDiff, Nat.reduceSub, Nat.reduceLT, Int.reduceToNat, Int.reduceLT, Int.reduceLE, reduceCtorEq]))
    · by_cases g3 : 60 < (ld.length : Int)
      · skip
        try simp only [r6_0, r6_1, r6_2, r6_3, r6_4, r6_5, r6_6, r6_7, r6_8, r6_9, c6, F6, hl1, hl2, hl3, g1, g2, g3, v_awake16, go_sem, Int.reduceTMod, Int.reduceTDiv, Int.reduceDiv, Int.reduceMod, Int.reduceAdd, Int.reduceSub, Int.reduceMul, Int.reduceNeg, Int.reducePow, Int.reduceEq, ↓reduceIte, Nat.reduceEqDiff, Nat.reduceAdd, Nat.reduceMul, Nat.reduceLeDiff, Nat.reduceSub, Nat.reduceLT, Int.reduceToNat, Int.reduceLT, Int.reduceLE, reduceCtorEq]
        repeat' ((first | refine FK_split (fun h_ => ?_) (fun h_ => ?_) | refine GK_split (fun h_ => ?_) (fun h_ => ?_) | refine ite_both (fun h_ => ?_) (fun h_ => ?_)) <;> (try simp only [decide_eq_true_eq, decide_eq_false_iff_not, Bool.not_true, Bool.not_false, Bool.not_eq_true', Bool.not_eq_false', Bool.not_eq_eq_eq_not, Decidable.not_not] at h_) <;> (try simp only [r6_0, r6_1, r6_2, r6_3, r6_4, r6_5, r6_6, r6_7, r6_8, r6_9, c6, F6, hl1, hl2, hl3, g1, g2, g3, v_awake16, h_, go_sem, Int.reduceTMod, Int.reduceTDiv, Int.reduceDiv, Int.reduceMod, Int.reduceAdd, Int.reduceSub, Int.reduceMul, Int.reduceNeg, Int.reducePow, Int.reduceEq, ↓reduceIte, Nat.reduceEqDiff, Nat.reduceAdd, Nat.reduceMul, Nat.reduceLeDiff, Nat.reduceSub, Nat.reduceLT, Int.reduceToNat, Int.reduceLT, Int.reduceLE, reduceCtorEq]))
      · have v1 := fun M N (hM : FrB n m M) (hN : n ≤ N) => v_right s.fill lf (frz M) N (rl_fr h1.f hM hN) bf hf (by omega)
        have v2 := fun M N (hM : FrB n m M) (hN : n ≤ N) => v_right s.pen lp (frz M) N (rl_fr h1.p hM hN) bp hp (by omega)
        have v3 := fun M N (hM : FrB n m M) (hN : n ≤ N) => v_Right (.one s.dl) ld s.ph (frz M) N (rl_fr h1.d hM hN) (by omega)
        have vC := fun M N (hM : FrB n m M) (hN : n ≤ N) => v_SCheck s lf lp ld (frz M) N (h1.keep hN hM).frz (by omega) (by omega) (by omega)
        have vE := fun M N (hM : FrB n m M) (hN : n ≤ N) => v_SEqual s s lf lf lp lp ld ld (frz M) N (h1.keep hN hM).frz (h1.keep hN hM).frz (by omega) (by omega) (by omega)
        simp only [styB_self] at vE
        have tail : ∀ e : Nat → Reg, e 1 = .one (.ptr n 0) → e 3 = RI (styV s lf lp ld) → RK TA r6_8 e (upd m n (some ⟨s.cs, true⟩)) (n + 1) (Kt.seq (.seq (.reg r6_9) .ret) (Kt.fin [SRes.tmp 2] fun r _ _ => r = RB true)) := by
          intro e e1 e3
          have vN := v_CheckNone
          unfold noS noP at vN
          try simp only [r6_8, go_sem, Int.reduceTMod, Int.reduceTDiv, Int.reduceDiv, Int.reduceMod, Int.reduceAdd, Int.reduceSub, Int.reduceMul, Int.reduceNeg, Int.reducePow, Int.reduceEq, ↓reduceIte, Nat.reduceEqDiff, Nat.reduceAdd, Nat.reduceMul, Nat.reduceLeDiff, Nat.reduceSub, Nat.reduceLT, Int.reduceToNat, Int.reduceLT, Int.reduceLE, reduceCtorEq]
          repeat' ((first | refine FK_split (fun h_ => ?_) (fun h_ => ?_) | refine GK_split (fun h_ => ?_) (fun h_ => ?_) | refine ite_both (fun h_ => ?_) (fun h_ => ?_)) <;> (try simp only [decide_eq_true_eq, decide_eq_false_iff_not, Bool.not_true, Bool.not_false, Bool.not_eq_true', Bool.not_eq_false', Bool.not_eq_eq_eq_not, Decidable.not_not] at h_) <;> (try simp only [r6_8, h_, go_sem, Int.reduceTMod, Int.reduceTDiv, Int.reduceDiv, Int.reduceMod, Int.reduceAdd, Int.reduceSub, Int.reduceMul, Int.reduceNeg, Int.reducePow, Int.reduceEq, ↓reduceIte, Nat.reduceEqDiff, Nat.reduceAdd, Nat.reduceMul, Nat.reduceLeDiff, Nat.reduceSub, Nat.reduceLT, Int.reduceToNat, Int.reduceLT, Int.reduceLE, reduceCtorEq]))
          refine RK_callk ?_
          refine (w_None _ _).mono ?_
          rintro _ m1 n1 rfl
          unfold noS noP
          obtain ⟨M1, hM1⟩ : ∃ M1, M1 = unfrz (upd m n (some ⟨s.cs, true⟩)) (n + 1) m1 := ⟨_, rfl⟩
          obtain ⟨N, hN⟩ : ∃ N, N = max (n + 1) n1 := ⟨_, rfl⟩
          rw [← hM1, ← hN]
          have hb : M1 n = some ⟨s.cs, true⟩ := by rw [hM1, unfrz_at, if_pos (by omega), upd_same]
          have hF : FrB n m M1 := fun id hid => by rw [hM1, unfrz_at, if_pos (by omega), upd_ne _ _ (by omega)]
          have hF' : FrB n m M1 = True := eq_true hF
          have n1' : (n = N) = False := eq_false (by omega)
          have n2' : (n ≤ N) = True := eq_true (by omega)
          have n3' : ∀ k, (n ≤ N + k) = True := fun k => eq_true (by omega)
          have hF2 : ∀ M b, FrB n m (upd M N b) = FrB n m M := fun M b => by
            obtain ⟨k, rfl⟩ : ∃ k, N = n + k := ⟨N - n, by omega⟩
            exact FrB_upd n k m M b
          try simp only [r6_9, e1, e3, hb, rd_of hb, n1', n2', n3', vC, vE, vN, v_awake16, hF', hF2, go_sem, Int.reduceTMod, Int.reduceTDiv, Int.reduceDiv, Int.reduceMod, Int.reduceAdd, Int.reduceSub, Int.reduceMul, Int.reduceNeg, Int.reducePow, Int.reduceEq, ↓reduceIte, Nat.reduceEqDiff, Nat.reduceAdd, Nat.reduceMul, Nat.reduceLeDiff, Nat.reduceSub, Nat.reduceLT, Int.reduceToNat, Int.reduceLT, Int.reduceLE, reduceCtorEq]
          repeat' ((first | refine FK_split (fun h_ => ?_) (fun h_ => ?_) | refine GK_split (fun h_ => ?_) (fun h_ => ?_) | refine ite_both (fun h_ => ?_) (fun h_ => ?_)) <;> (try simp only [decide_eq_true_eq, decide_eq_false_iff_not, Bool.not_true, Bool.not_false, Bool.not_eq_true', Bool.not_eq_false', Bool.not_eq_eq_eq_not, Decidable.not_not] at h_) <;> (try simp only [r6_9, e1, e3, hb, rd_of hb, n1', n2', n3', vC, vE, vN, v_awake16, hF', hF2, h_, go_sem, Int.reduceTMod, Int.reduceTDiv, Int.reduceDiv, Int.reduceMod, Int.reduceAdd, Int.reduceSub, Int.reduceMul, Int.reduceNeg, Int.reducePow, Int.reduceEq, ↓reduceIte, Nat.reduceEqDiff, Nat.reduceAdd, Nat.reduceMul, Nat.reduceLeDiff, Nat.reduceSub, Nat.reduceLT, Int.reduceToNat, Int.reduceLT, Int.reduceLE, reduceCtorEq]))
        have fin : ∀ e : Nat → Reg, e 1 = .one (.ptr n 0) → e 3 = RI (styV s lf lp ld) → RK TA r6_8 e (upd m n (some ⟨[I s.fill.k, U8 s.fill.c0, U8 s.fill.c1, U8 s.fill.c2, U8 s.fill.c3, I s.fill.fx, I s.fill.fy, I s.fill.tx, I s.fill.ty, s.fill.st,
            I s.pen.k, U8 s.pen.c0, U8 s.pen.c1, U8 s.pen.c2, U8 s.pen.c3, I s.pen.fx, I s.pen.fy, I s.pen.tx, I s.pen.ty, s.pen.st, I s.rule, I s.half, I s.cap, s.dl, I s.ph, I s.op, I s.mode], true⟩)) (n + 1) (Kt.seq (.seq (.reg r6_9) .ret) (Kt.fin [SRes.tmp 2] fun r _ _ => r = RB true)) := tail
        clear vC vE tail
        unfold styV at fin
        by_cases a1 : rightV s.fill lf = 0
        · rw [a1] at v1
          by_cases a2 : rightV s.pen lp = 0
          · rw [a2] at v2
            simp only [a1, a2, ne_eq, not_true_eq_false, if_false] at fin
            by_cases hg : rngP s
            · simp only [if_pos hg] at fin
              obtain ⟨⟨b1, b2⟩, ⟨b3, b4⟩, ⟨b5, b6⟩, ⟨b7, b8⟩, b9, b10⟩ := hg
              have e3 : (s.half < 0) = False := eq_false (by omega)
              have e4 : (32768 < s.half) = False := eq_false (by omega)
              have e5 : (s.cap < 0) = False := eq_false (by omega)
              have e6 : (2 < s.cap) = False := eq_false (by omega)
              have e7 : (s.op < 0) = False := eq_false (by omega)
              have e8 : (255 < s.op) = False := eq_false (by omega)
              have e9 : (s.mode < 0) = False := eq_false (by omega)
              have e10 : (4 < s.mode) = False := eq_false (by omega)
              have e12 : s.rule = 1 ∨ s.rule = 2 := by omega
              cases hr : rightB ld s.ph <;> rw [hr] at v3 <;> rw [hr] at fin <;> rcases e12 with e1 | e1
              · skip
                try simp only [F6, c6, r6_0, r6_1, r6_2, r6_3, r6_4, r6_5, r6_6, r6_7, hl1, hl2, hl3, g1, g2, g3, v1, v2, v3, e1, e3, e4, e5, e6, e7, e8, e9, e10, FrB_refl, FrB_upd, FrB_upd0, Nat.le_add_right, go_sem, Int.reduceTMod, Int.reduceTDiv, Int.reduceDiv, Int.reduceMod, Int.reduceAdd, Int.reduceSub, Int.reduceMul, Int.reduceNeg, Int.reducePow, Int.reduceEq, ↓reduceIte, Nat.reduceEqDiff, Nat.reduceAdd, Nat.reduceMul, Nat.reduceLeDiff, Nat.reduceSub, Nat.reduceLT, Int.reduceToNat, Int.reduceLT, Int.reduceLE, reduceCtorEq]
                repeat' ((first | refine FK_split (fun h_ => ?_) (fun h_ => ?_) | refine GK_split (fun h_ => ?_) (fun h_ => ?_) | refine ite_both (fun h_ => ?_) (fun h_ => ?_)) <;> (try simp only [decide_eq_true_eq, decide_eq_false_iff_not, Bool.not_true, Bool.not_false, Bool.not_eq_true', Bool.not_eq_false', Bool.not_eq_eq_eq_not, Decidable.not_not] at h_) <;> (try simp only [F6, c6, r6_0, r6_1, r6_2, r6_3, r6_4, r6_5, r6_6, r6_7, hl1, hl2, hl3, g1, g2, g3, v1, v2, v3, e1, e3, e4, e5, e6, e7, e8, e9, e10, FrB_refl, FrB_upd, FrB_upd0, Nat.le_add_right, h_, go_sem, Int.reduceTMod, Int.reduceTDiv, Int.reduceDiv, Int.reduceMod, Int.reduceAdd, Int.reduceSub, Int.reduceMul, Int.reduceNeg, Int.reducePow, Int.reduceEq, ↓reduceIte, Nat.reduceEqDiff, Nat.reduceAdd, Nat.reduceMul, Nat.reduceLeDiff, Nat.reduceSub, Nat.reduceLT, Int.reduceToNat, Int.reduceLT, Int.reduceLE, reduceCtorEq]))
                exact fin _ (by simp only [go_sem, Int.reduceTMod, Int.reduceTDiv, Int.reduceDiv, Int.reduceMod, Int.reduceAdd, Int.reduceSub, Int.reduceMul, Int.reduceNeg, Int.reducePow, Int.reduceEq, ↓reduceIte, Nat.reduceEqDiff, Nat.reduceAdd, Nat.reduceMul, Nat.reduceLeDiff, Nat.reduceSub, Nat.reduceLT, Int.reduceToNat, Int.reduceLT, Int.reduceLE, reduceCtorEq]) (by simp only [go_sem, Int.reduceTMod, Int.reduceTDiv, Int.reduceDiv, Int.reduceMod, Int.reduceAdd, Int.reduceSub, Int.reduceMul, Int.reduceNeg, Int.reducePow, Int.reduceEq, ↓reduceIte, Nat.reduceEqDiff, Nat.reduceAdd, Nat.reduceMul, Nat.reduceLeDiff, Nat.reduceSub, Nat.reduceLT, Int.reduceToNat, Int.reduceLT, Int.reduceLE, reduceCtorEq])
              · skip
                try simp only [F6, c6, r6_0, r6_1, r6_2, r6_3, r6_4, r6_5, r6_6, r6_7, hl1, hl2, hl3, g1, g2, g3, v1, v2, v3, e1, e3, e4, e5, e6, e7, e8, e9, e10, FrB_refl, FrB_upd, FrB_upd0, Nat.le_add_right, go_sem, Int.reduceTMod, Int.reduceTDiv, Int.reduceDiv, Int.reduceMod, Int.reduceAdd, Int.reduceSub, Int.reduceMul, Int.reduceNeg, Int.reducePow, Int.reduceEq, ↓reduceIte, Nat.reduceEqDiff, Nat.reduceAdd, Nat.reduceMul, Nat.reduceLeDiff, Nat.reduceSub, Nat.reduceLT, Int.reduceToNat, Int.reduceLT, Int.reduceLE, reduceCtorEq]
                repeat' ((first | refine FK_split (fun h_ => ?_) (fun h_ => ?_) | refine GK_split (fun h_ => ?_) (fun h_ => ?_) | refine ite_both (fun h_ => ?_) (fun h_ => ?_)) <;> (try simp only [decide_eq_true_eq, decide_eq_false_iff_not, Bool.not_true, Bool.not_false, Bool.not_eq_true', Bool.not_eq_false', Bool.not_eq_eq_eq_not, Decidable.not_not] at h_) <;> (try simp only [F6, c6, r6_0, r6_1, r6_2, r6_3, r6_4, r6_5, r6_6, r6_7, hl1, hl2, hl3, g1, g2, g3, v1, v2, v3, e1, e3, e4, e5, e6, e7, e8, e9, e10, FrB_refl, FrB_upd, FrB_upd0, Nat.le_add_right, h_, go_sem, Int.reduceTMod, Int.reduceTDiv, Int.reduceDiv, Int.reduceMod, Int.reduceAdd, Int.reduceSub, Int.reduceMul, Int.reduceNeg, Int.reducePow, Int.reduceEq, ↓reduceIte, Nat.reduceEqDiff, Nat.reduceAdd, Nat.reduceMul, Nat.reduceLeDiff, Nat.reduceSub, Nat.reduceLT, Int.reduceToNat, Int.reduceLT, Int.reduceLE, reduceCtorEq]))
                exact fin _ (by simp only [go_sem, Int.reduceTMod, Int.reduceTDiv, Int.reduceDiv, Int.reduceMod, Int.reduceAdd, Int.reduceSub, Int.reduceMul, Int.reduceNeg, Int.reducePow, Int.reduceEq, ↓reduceIte, Nat.reduceEqDiff, Nat.reduceAdd, Nat.reduceMul, Nat.reduceLeDiff, Nat.reduceSub, Nat.reduceLT, Int.reduceToNat, Int.reduceLT, Int.reduceLE, reduceCtorEq]) (by simp only [go_sem, Int.reduceTMod, Int.reduceTDiv, Int.reduceDiv, Int.reduceMod, Int.reduceAdd, Int.reduceSub, Int.reduceMul, Int.reduceNeg, Int.reducePow, Int.reduceEq, ↓reduceIte, Nat.reduceEqDiff, Nat.reduceAdd, Nat.reduceMul, Nat.reduceLeDiff, Nat.reduceSub, Nat.reduceLT, Int.reduceToNat, Int.reduceLT, Int.reduceLE, reduceCtorEq])
              · skip
                try simp only [F6, c6, r6_0, r6_1, r6_2, r6_3, r6_4, r6_5, r6_6, r6_7, hl1, hl2, hl3, g1, g2, g3, v1, v2, v3, e1, e3, e4, e5, e6, e7, e8, e9, e10, FrB_refl, FrB_upd, FrB_upd0, Nat.le_add_right, go_sem, Int.reduceTMod, Int.reduceTDiv, Int.reduceDiv, Int.reduceMod, Int.reduceAdd, Int.reduceSub, Int.reduceMul, Int.reduceNeg, Int.reducePow, Int.reduceEq, ↓reduceIte, Nat.reduceEqDiff, Nat.reduceAdd, Nat.reduceMul, Nat.reduceLeDiff, Nat.reduceSub, Nat.reduceLT, Int.reduceToNat, Int.reduceLT, Int.reduceLE, reduceCtorEq]
                repeat' ((first | refine FK_split (fun h_ => ?_) (fun h_ => ?_) | refine GK_split (fun h_ => ?_) (fun h_ => ?_) | refine ite_both (fun h_ => ?_) (fun h_ => ?_)) <;> (try simp only [decide_eq_true_eq, decide_eq_false_iff_not, Bool.not_true, Bool.not_false, Bool.not_eq_true', Bool.not_eq_false', Bool.not_eq_eq_eq_not, Decidable.not_not] at h_) <;> (try simp only [F6, c6, r6_0, r6_1, r6_2, r6_3, r6_4, r6_5, r6_6, r6_7, hl1, hl2, hl3, g1, g2, g3, v1, v2, v3, e1, e3, e4, e5, e6, e7, e8, e9, e10, FrB_refl, FrB_upd, FrB_upd0, Nat.le_add_right, h_, go_sem, Int.reduceTMod, Int.reduceTDiv, Int.reduceDiv, Int.reduceMod, Int.reduceAdd, Int.reduceSub, Int.reduceMul, Int.reduceNeg, Int.reducePow, Int.reduceEq, ↓reduceIte, Nat.reduceEqDiff, Nat.reduceAdd, Nat.reduceMul, Nat.reduceLeDiff, Nat.reduceSub, Nat.reduceLT, Int.reduceToNat, Int.reduceLT, Int.reduceLE, reduceCtorEq]))
                exact fin _ (by simp only [go_sem, Int.reduceTMod, Int.reduceTDiv, Int.reduceDiv, Int.reduceMod, Int.reduceAdd, Int.reduceSub, Int.reduceMul, Int.reduceNeg, Int.reducePow, Int.reduceEq, ↓reduceIte, Nat.reduceEqDiff, Nat.reduceAdd, Nat.reduceMul, Nat.reduceLeDiff, Nat.reduceSub, Nat.reduceLT, Int.reduceToNat, Int.reduceLT, Int.reduceLE, reduceCtorEq]) (by simp only [go_sem, Int.reduceTMod, Int.reduceTDiv, Int.reduceDiv, Int.reduceMod, Int.reduceAdd, Int.reduceSub, Int.reduceMul, Int.reduceNeg, Int.reducePow, Int.reduceEq, ↓reduceIte, Nat.reduceEqDiff, Nat.reduceAdd, Nat.reduceMul, Nat.reduceLeDiff, Nat.reduceSub, Nat.reduceLT, Int.reduceToNat, Int.reduceLT, Int.reduceLE, reduceCtorEq])
              · skip
                try simp only [F6, c6, r6_0, r6_1, r6_2, r6_3, r6_4, r6_5, r6_6, r6_7, hl1, hl2, hl3, g1, g2, g3, v1, v2, v3, e1, e3, e4, e5, e6, e7, e8, e9, e10, FrB_refl, FrB_upd, FrB_upd0, Nat.le_add_right, go_sem, Int.reduceTMod, Int.reduceTDiv, Int.reduceDiv, Int.reduceMod, Int.reduceAdd, Int.reduceSub, Int.reduceMul, Int.reduceNeg, Int.reducePow, Int.reduceEq, ↓reduceIte, Nat.reduceEqDiff, Nat.reduceAdd, Nat.reduceMul, Nat.reduceLeDiff, Nat.reduceSub, Nat.reduceLT, Int.reduceToNat, Int.reduceLT, Int.reduceLE, reduceCtorEq]
                repeat' ((first | refine FK_split (fun h_ => ?_) (fun h_ => ?_) | refine GK_split (fun h_ => ?_) (fun h_ => ?_) | refine ite_both (fun h_ => ?_) (fun h_ => ?_)) <;> (try simp only [decide_eq_true_eq, decide_eq_false_iff_not, Bool.not_true, Bool.not_false, Bool.not_eq_true', Bool.not_eq_false', Bool.not_eq_eq_eq_not, Decidable.not_not] at h_) <;> (try simp only [F6, c6, r6_0, r6_1, r6_2, r6_3, r6_4, r6_5, r6_6, r6_7, hl1, hl2, hl3, g1, g2, g3, v1, v2, v3, e1, e3, e4, e5, e6, e7, e8, e9, e10, FrB_refl, FrB_upd, FrB_upd0, Nat.le_add_right, h_, go_sem, Int.reduceTMod, Int.reduceTDiv, Int.reduceDiv, Int.reduceMod, Int.reduceAdd, Int.reduceSub, Int.reduceMul, Int.reduceNeg, Int.reducePow, Int.reduceEq, ↓reduceIte, Nat.reduceEqDiff, Nat.reduceAdd, Nat.reduceMul, Nat.reduceLeDiff, Nat.reduceSub, Nat.reduceLT, Int.reduceToNat, Int.reduceLT, Int.reduceLE, reduceCtorEq]))
                exact fin _ (by simp only [go_sem, Int.reduceTMod, Int.reduceTDiv, Int.reduceDiv, Int.reduceMod, Int.reduceAdd, Int.reduceSub, Int.reduceMul, Int.reduceNeg, Int.reducePow, Int.reduceEq, ↓reduceIte, Nat.reduceEqDiff, Nat.reduceAdd, Nat.reduceMul, Nat.reduceLeDiff, Nat.reduceSub, Nat.reduceLT, Int.reduceToNat, Int.reduceLT, Int.reduceLE, reduceCtorEq]) (by simp only [go_sem, Int.reduceTMod, Int.reduceTDiv, Int.reduceDiv, Int.reduceMod, Int.reduceAdd, Int.reduceSub, Int.reduceMul, Int.reduceNeg, Int.reducePow, Int.reduceEq, ↓reduceIte, Nat.reduceEqDiff, Nat.reduceAdd, Nat.reduceMul, Nat.reduceLeDiff, Nat.reduceSub, Nat.reduceLT, Int.reduceToNat, Int.reduceLT, Int.reduceLE, reduceCtorEq])
            · simp only [if_neg hg] at fin
              try simp only [F6, c6, r6_0, r6_1, r6_2, r6_3, r6_4, r6_5, r6_6, r6_7, hl1, hl2, hl3, g1, g2, g3, v1, v2, v3, FrB_refl, FrB_upd, FrB_upd0, Nat.le_add_right, go_sem, Int.reduceTMod, Int.reduceTDiv, Int.reduceDiv, Int.reduceMod, Int.reduceAdd, Int.reduceSub, Int.reduceMul, Int.reduceNeg, Int.reducePow, Int.reduceEq, ↓reduceIte, Nat.reduceEqDiff, Nat.reduceAdd, Nat.reduceMul, Nat.reduceLeDiff, Nat.reduceSub, Nat.reduceLT, Int.reduceToNat, Int.reduceLT, Int.reduceLE, reduceCtorEq]
              repeat' ((first | refine FK_split (fun h_ => ?_) (fun h_ => ?_) | refine GK_split (fun h_ => ?_) (fun h_ => ?_) | refine ite_both (fun h_ => ?_) (fun h_ => ?_)) <;> (try simp only [decide_eq_true_eq, decide_eq_false_iff_not, Bool.not_true, Bool.not_false, Bool.not_eq_true', Bool.not_eq_false', Bool.not_eq_eq_eq_not, Decidable.not_not] at h_) <;> (try simp only [F6, c6, r6_0, r6_1, r6_2, r6_3, r6_4, r6_5, r6_6, r6_7, hl1, hl2, hl3, g1, g2, g3, v1, v2, v3, FrB_refl, FrB_upd, FrB_upd0, Nat.le_add_right, h_, go_sem, Int.reduceTMod, Int.reduceTDiv, Int.reduceDiv, Int.reduceMod, Int.reduceAdd, Int.reduceSub, Int.reduceMul, Int.reduceNeg, Int.reducePow, Int.reduceEq, ↓reduceIte, Nat.reduceEqDiff, Nat.reduceAdd, Nat.reduceMul, Nat.reduceLeDiff, Nat.reduceSub, Nat.reduceLT, Int.reduceToNat, Int.reduceLT, Int.reduceLE, reduceCtorEq]))
              all_goals first | (refine fin _ ?_ ?_ <;> (simp only [go_sem, Int.reduceTMod, Int.reduceTDiv, Int.reduceDiv, Int.reduceMod, Int.reduceAdd, Int.reduceSub, Int.reduceMul, Int.reduceNeg, Int.reducePow, Int.reduceEq, ↓reduceIte, Nat.reduceEqDiff, Nat.reduceAdd, Nat.reduceMul, Nat.reduceLeDiff, Nat.reduceSub, Nat.reduceLT, Int.reduceToNat, Int.reduceLT, Int.reduceLE, reduceCtorEq]; done)) | exact absurd (by unfold rngP; omega) hg
          · simp only [a1, a2, ne_eq, not_true_eq_false, not_false_eq_true, if_false, if_true] at fin
            try simp only [F6, c6, r6_0, r6_1, r6_2, r6_3, r6_4, r6_5, r6_6, r6_7, hl1, hl2, hl3, g1, g2, g3, v1, v2, a2, FrB_refl, FrB_upd, FrB_upd0, Nat.le_add_right, go_sem, Int.reduceTMod, Int.reduceTDiv, Int.reduceDiv, Int.reduceMod, Int.reduceAdd, Int.reduceSub, Int.reduceMul, Int.reduceNeg, Int.reducePow, Int.reduceEq, ↓reduceIte, Nat.reduceEqDiff, Nat.reduceAdd, Nat.reduceMul, Nat.reduceLeDiff, Nat.reduceSub, Nat.reduceLT, Int.reduceToNat, Int.reduceLT, Int.reduceLE, reduceCtorEq]
            repeat' ((first | refine FK_split (fun h_ => ?_) (fun h_ => ?_) | refine GK_split (fun h_ => ?_) (fun h_ => ?_) | refine ite_both (fun h_ => ?_) (fun h_ => ?_)) <;> (try simp only [decide_eq_true_eq, decide_eq_false_iff_not, Bool.not_true, Bool.not_false, Bool.not_eq_true', Bool.not_eq_false', Bool.not_eq_eq_eq_not, Decidable.not_not] at h_) <;> (try simp only [F6, c6, r6_0, r6_1, r6_2, r6_3, r6_4, r6_5, r6_6, r6_7, hl1, hl2, hl3, g1, g2, g3, v1, v2, a2, FrB_refl, FrB_upd, FrB_upd0, Nat.le_add_right, h_, go_sem, Int.reduceTMod, Int.reduceTDiv, Int.reduceDiv, Int.reduceMod, Int.reduceAdd, Int.reduceSub, Int.reduceMul, Int.reduceNeg, Int.reducePow, Int.reduceEq, ↓reduceIte, Nat.reduceEqDiff, Nat.reduceAdd, Nat.reduceMul, Nat.reduceLeDiff, Nat.reduceSub, Nat.reduceLT, Int.reduceToNat, Int.reduceLT, Int.reduceLE, reduceCtorEq]))
            exact fin _ (by simp only [go_sem, Int.reduceTMod, Int.reduceTDiv, Int.reduceDiv, Int.reduceMod, Int.reduceAdd, Int.reduceSub, Int.reduceMul, Int.reduceNeg, Int.reducePow, Int.reduceEq, ↓reduceIte, Nat.reduceEqDiff, Nat.reduceAdd, Nat.reduceMul, Nat.reduceLeDiff, Nat.reduceSub, Nat.reduceLT, Int.reduceToNat, Int.reduceLT, Int.reduceLE, reduceCtorEq]) (by simp only [go_sem, Int.reduceTMod, Int.reduceTDiv, Int.reduceDiv, Int.reduceMod, Int.reduceAdd, Int.reduceSub, Int.reduceMul, Int.reduceNeg, Int.reducePow, Int.reduceEq, ↓reduceIte, Nat.reduceEqDiff, Nat.reduceAdd, Nat.reduceMul, Nat.reduceLeDiff, Nat.reduceSub, Nat.reduceLT, Int.reduceToNat, Int.reduceLT, Int.reduceLE, reduceCtorEq])
        · simp only [a1, ne_eq, not_true_eq_false, not_false_eq_true, if_false, if_true] at fin
          try simp only [F6, c6, r6_0, r6_1, r6_2, r6_3, r6_4, r6_5, r6_6, r6_7, hl1, hl2, hl3, g1, g2, g3, v1, a1, FrB_refl, FrB_upd, FrB_upd0, Nat.le_add_right, go_sem, Int.reduceTMod, Int.reduceTDiv, Int.reduceDiv, Int.reduceMod, Int.reduceAdd, Int.reduceSub, Int.reduceMul, Int.reduceNeg, Int.reducePow, Int.reduceEq, ↓reduceIte, Nat.reduceEqDiff, Nat.reduceAdd, Nat.reduceMul, Nat.reduceLeDiff, Nat.reduceSub, Nat.reduceLT, Int.reduceToNat, Int.reduceLT, Int.reduceLE, reduceCtorEq]
          repeat' ((first | refine FK_split (fun h_ => ?_) (fun h_ => ?_) | refine GK_split (fun h_ => ?_) (fun h_ => ?_) | refine ite_both (fun h_ => ?_) (fun h_ => ?_)) <;> (try simp only [decide_eq_true_eq, decide_eq_false_iff_not, Bool.not_true, Bool.not_false, Bool.not_eq_true', Bool.not_eq_false', Bool.not_eq_eq_eq_not, Decidable.not_not] at h_) <;> (try simp only [F6, c6, r6_0, r6_1, r6_2, r6_3, r6_4, r6_5, r6_6, r6_7, hl1, hl2, hl3, g1, g2, g3, v1, a1, FrB_refl, FrB_upd, FrB_upd0, Nat.le_add_right, h_, go_sem, Int.reduceTMod, Int.reduceTDiv, Int.reduceDiv, Int.reduceMod, Int.reduceAdd, Int.reduceSub, Int.reduceMul, Int.reduceNeg, Int.reducePow, Int.reduceEq, ↓reduceIte, Nat.reduceEqDiff, Nat.reduceAdd, Nat.reduceMul, Nat.reduceLeDiff, Nat.reduceSub, Nat.reduceLT, Int.reduceToNat, Int.reduceLT, Int.reduceLE, reduceCtorEq]))
          exact fin _ (by simp only [go_sem, Int.reduceTMod, Int.reduceTDiv, Int.reduceDiv, Int.reduceMod, Int.reduceAdd, Int.reduceSub, Int.reduceMul, Int.reduceNeg, Int.reducePow, Int.reduceEq, ↓reduceIte, Nat.reduceEqDiff, Nat.reduceAdd, Nat.reduceMul, Nat.reduceLeDiff, Nat.reduceSub, Nat.reduceLT, Int.reduceToNat, Int.reduceLT, Int.reduceLE, reduceCtorEq]) (by simp only [go_sem, Int.reduceTMod, Int.reduceTDiv, Int.reduceDiv, Int.reduceMod, Int.reduceAdd, Int.reduceSub, Int.reduceMul, Int.reduceNeg, Int.reducePow, Int.reduceEq, ↓reduceIte, Nat.reduceEqDiff, Nat.reduceAdd, Nat.reduceMul, Nat.reduceLeDiff, Nat.reduceSub, Nat.reduceLT, Int.reduceToNat, Int.reduceLT, Int.reduceLE, reduceCtorEq])

/- Copies of rows; one bit turned. Conditions: those that each theorem names. -/
open Go Go.Proofs
set_option linter.unusedSimpArgs false
set_option linter.unusedVariables false

theorem xor_bit {w : Nat} (hw : 0 < w) (a b : BitVec w) (hb : b.getLsbD 0 = true) : a ^^^ b ≠ a := fun h => by
  have := congrArg (fun v : BitVec w => v.getLsbD 0) h
  simp only [BitVec.getLsbD_xor, hb] at this
  cases hx : a.getLsbD 0 <;> rw [hx] at this <;> simp at this
theorem xor64_ne (x : Int) : Go.bits .xor .i64 x 1 ≠ x := fun h => by
  have h2 : BitVec.ofInt 64 (Go.bits .xor .i64 x 1) = BitVec.ofInt 64 x ^^^ BitVec.ofInt 64 1 := by
    apply BitVec.eq_of_toNat_eq
    rw [BitVec.toNat_ofInt]
    have hlt := (BitVec.ofInt 64 x ^^^ BitVec.ofInt 64 1).isLt
    show ((IntKind.i64.wrap ((BitVec.ofInt 64 x ^^^ BitVec.ofInt 64 1).toNat : Int)) % ((2 ^ 64 : Nat) : Int)).toNat = _
    generalize (BitVec.ofInt 64 x ^^^ BitVec.ofInt 64 1).toNat = z at *
    unfold IntKind.wrap
    simp only [IntKind.bits, IntKind.signed, Bool.true_and, decide_eq_true_eq]
    split <;> omega
  rw [h] at h2
  exact xor_bit (by decide) _ _ (by decide) h2.symm
theorem xor8_ne (x : Int) : Go.bits .xor .u8 x 1 ≠ x := fun h => by
  have h2 : BitVec.ofInt 8 (Go.bits .xor .u8 x 1) = BitVec.ofInt 8 x ^^^ BitVec.ofInt 8 1 := by
    apply BitVec.eq_of_toNat_eq
    rw [BitVec.toNat_ofInt]
    have hlt := (BitVec.ofInt 8 x ^^^ BitVec.ofInt 8 1).isLt
    show ((IntKind.u8.wrap ((BitVec.ofInt 8 x ^^^ BitVec.ofInt 8 1).toNat : Int)) % ((2 ^ 8 : Nat) : Int)).toNat = _
    generalize (BitVec.ofInt 8 x ^^^ BitVec.ofInt 8 1).toNat = z at *
    unfold IntKind.wrap
    simp only [IntKind.bits, IntKind.signed, Bool.false_and, Bool.false_eq_true, if_false]
    omega
  rw [h] at h2
  exact xor_bit (by decide) _ _ (by decide) h2.symm
/-- A copy of the call's own: an empty one, or one with a block of its own. -/
def OA {α : Type} (enc : α → List Cell) (sz base : Nat) (m : Mem) (n : Nat) (c : Cell) (l : List α) : Prop :=
  ∃ id cap, c = .sl id 0 l.length cap sz ∧ base ≤ id ∧ id < n ∧ m id = some ⟨l.flatMap enc, true⟩ ∧ (cap = none ∨ (cap = some 0 ∧ l = []))
theorem OA.rl {α : Type} {enc : α → List Cell} {sz : Nat} (hsz : ∀ x, (enc x).length = sz) {base : Nat} {m : Mem} {n : Nat} {c : Cell} {l : List α} (h : OA enc sz base m n c l) : RL enc sz m n (.one c) l := by
  obtain ⟨id, cap, rfl, h1, h2, h3, h4⟩ := h
  refine Or.inr ⟨id, 0, cap, rfl, h2, ?_⟩
  have hl := flatMap_len enc sz hsz l
  rw [rd_of h3]
  unfold rdB
  rw [if_pos (by rw [hl]; omega), List.drop_zero, ← hl, List.take_length]
theorem OA.keep {α : Type} {enc : α → List Cell} {sz base : Nat} {m m' : Mem} {n n' : Nat} {c : Cell} {l : List α} (h : OA enc sz base m n c l) (hn : n ≤ n') (hm : ∀ id, base ≤ id → id < n → m' id = m id) : OA enc sz base m' n' c l := by
  obtain ⟨id, cap, rfl, h1, h2, h3, h4⟩ := h
  exact ⟨id, cap, rfl, h1, by omega, by rw [hm id h1 h2]; exact h3, h4⟩
/-- append([]T{}, l...) -/
theorem K_appE {T : Nat → Option SFun} {α : Type} {enc : α → List Cell} {sz : Nat} (hsz : ∀ x, (enc x).length = sz) {M : Mem} {N by' : Nat} {x : Reg} {l : List α} {d : Option Nat} {os : List SOper} {e : Nat → Reg} {k : Kt}
    (hx : RL enc sz M N x l) (hl : l.length < 4294967296)
    (next : ∀ c m' n', N + 1 ≤ n' → OA enc sz N m' n' c l → (∀ id, id < N → m' id = M id) → RK T os (putE e d (.one c)) m' n' k) :
    ThenK T d os e k (evApp (upd M N (some ⟨[], true⟩)) (N + 1) sz by' (.one (.sl N 0 0 (some 0) sz)) x) := by
  have empty : ∀ l : List α, l.length = 0 → ∀ c, c = .sl N 0 0 (some 0) sz → OA enc sz N (upd M N (some ⟨[], true⟩)) (N + 1) c l := fun l h c hc => by
    have : l = [] := List.length_eq_zero_iff.1 h
    subst this
    exact ⟨N, some 0, hc, Nat.le_refl _, by omega, by rw [upd_same]; rfl, Or.inr ⟨rfl, rfl⟩⟩
  rcases hx with ⟨rfl, rfl⟩ | ⟨id, off, cap, rfl, h2, h3⟩
  · simp only [evApp, newsOf, true_and, Nat.add_zero, Nat.le_refl, if_true]
    rw [if_pos (by decide)]
    exact next _ _ _ (Nat.le_refl _) (empty [] rfl _ rfl) (fun id hid => upd_ne _ _ (by omega))
  · have h3' : rd (upd M N (some ⟨[], true⟩)) id off (l.length * sz) = some (l.flatMap enc) := by
      rw [← h3]; unfold rd; rw [upd_ne _ _ (by omega)]
    simp only [evApp, newsOf, if_true, h3', Option.map_some, true_and, Nat.zero_add]
    rw [if_pos (by omega)]
    by_cases hz : l.length = 0
    · have : l = [] := List.length_eq_zero_iff.1 hz
      subst this
      simp only [List.length_nil, Nat.le_refl, if_true]
      exact next _ _ _ (Nat.le_refl _) (empty [] rfl _ rfl) (fun id hid => upd_ne _ _ (by omega))
    · rw [if_neg (by omega)]
      have h4 : rd (upd M N (some ⟨[], true⟩)) N 0 (0 * sz) = some [] := by
        rw [rd_of (upd_same _ _ _)]
        simp [rdB]
      simp only [h4, Option.map_some, List.nil_append]
      exact next _ _ _ (by omega) ⟨N + 1, none, rfl, by omega, by omega, upd_same _ _ _, Or.inl rfl⟩ (fun id hid => by rw [upd_ne _ _ (by omega), upd_ne _ _ (by omega)])
/-- One more. -/
theorem K_appP {T : Nat → Option SFun} {α : Type} {enc : α → List Cell} {sz : Nat} (hsz : ∀ x, (enc x).length = sz) {base n0 : Nat} {m0 M : Mem} {N by' j : Nat} {o : Bool} {c0 : Cell} {l : List α} {p : α} {d : Option Nat} {os : List SOper} {e : Nat → Reg} {k : Kt}
    (hx : OA enc sz base m0 n0 c0 l) (hn : n0 ≤ N) (hm : ∀ id, base ≤ id → id < n0 → M id = m0 id) (hj : M j = some ⟨enc p, o⟩) (hl : l.length + 1 < 4294967296)
    (next : ∀ c m', RL enc sz m' (N + 1) (.one c) (l ++ [p]) → (∀ i, sid (.one c) = some i → i = N) → (∀ i, i < N → sid (.one c0) ≠ some i → m' i = M i) → RK T os (putE e d (.one c)) m' (N + 1) k) :
    ThenK T d os e k (evApp M N sz by' (.one c0) (.one (.sl j 0 1 (some 1) sz))) := by
  have hnew : newsOf M sz (.one (.sl j 0 1 (some 1) sz)) = some (1, enc p) := by
    simp only [newsOf, if_true]
    rw [rd_of hj]
    simp [rdB, hsz]
    exact List.take_of_length_le (by rw [hsz]; exact Nat.le_refl _)
  obtain ⟨id, cap, rfl, h1, h2, h3, h4⟩ := hx
  have h5 : M id = some ⟨l.flatMap enc, true⟩ := by rw [hm id h1 h2]; exact h3
  have hfl := flatMap_len enc sz hsz l
  have h6 : rd M id 0 (l.length * sz) = some (l.flatMap enc) := by
    rw [rd_of h5]
    unfold rdB
    rw [if_pos (by rw [hfl]; omega), List.drop_zero, ← hfl, List.take_length]
  have done : ∀ m', m' N = some ⟨l.flatMap enc ++ enc p, true⟩ → RL enc sz m' (N + 1) (.one (.sl N 0 (l.length + 1) none sz)) (l ++ [p]) := fun m' h => by
    refine Or.inr ⟨N, 0, none, by simp, by omega, ?_⟩
    have e1 : (l ++ [p]).flatMap enc = l.flatMap enc ++ enc p := by simp
    have hfl2 := flatMap_len enc sz hsz (l ++ [p])
    rw [rd_of h, e1]
    rw [e1] at hfl2
    unfold rdB
    rw [if_pos (by rw [hfl2]; omega), List.drop_zero, ← hfl2, List.take_length]
  rcases h4 with rfl | ⟨rfl, rfl⟩
  · simp only [evApp, hnew, if_true, h5, h6, Option.map_some, true_and]
    rw [if_pos (by omega)]
    exact next _ _ (done _ (upd_same _ _ _)) (fun i e => by simp only [sid, Option.some.injEq] at e; exact e.symm) (fun i hi hN => by rw [upd_ne _ _ (by omega), upd_ne _ _ (fun e => hN (by rw [e]; rfl))])
  · simp only [evApp, hnew, true_and, List.length_nil]
    rw [if_pos (by decide), if_neg (by decide)]
    rw [List.length_nil] at h6
    simp only [h6, Option.map_some]
    exact next _ _ (done _ (upd_same _ _ _)) (fun i e => by simp only [sid, Option.some.injEq] at e; exact e.symm) (fun i hi hN => upd_ne _ _ (by omega))
theorem v_small (s : Sty) (lf lp : List Stp) (ld : List Int) (m : Mem) (n : Nat) (h1 : SRel m n s lf lp ld) : callF TA 20 [.agg s.cs, rnil] m n = some (RB (decide ((lf.length : Int) ≤ 60) && (decide ((lp.length : Int) ≤ 60) && decide ((ld.length : Int) ≤ 60)))) := by
  refine callF_of (Fn_ofK (fn := F20) rfl (by simp [F20]) ?_)
  have hl1 := h1.f.len
  have hl2 := h1.p.len
  have hl3 := h1.d.len
  by_cases a1 : (lf.length : Int) ≤ 60
  · by_cases a2 : (lp.length : Int) ≤ 60
    · by_cases a3 : (ld.length : Int) ≤ 60
      · skip
        try simp only [r20_0, r20_1, c20, F20, hl1, hl2, hl3, a1, a2, a3, lenO_nil, go_sem, Int.reduceTMod, Int.reduceTDiv, Int.reduceDiv, Int.reduceMod, Int.reduceAdd, Int.reduceSub, Int.reduceMul, Int.reduceNeg, Int.reducePow, Int.reduceEq, ↓reduceIte, Nat.reduceEqDiff, Nat.reduceAdd, Nat.reduceMul, Nat.reduceLeDiff, Nat.reduceSub, Nat.reduceLT, Int.reduceToNat, Int.reduceLT, Int.reduceLE, reduceCtorEq]
        repeat' ((first | refine FK_split (fun h_ => ?_) (fun h_ => ?_) | refine GK_split (fun h_ => ?_) (fun h_ => ?_) | refine ite_both (fun h_ => ?_) (fun h_ => ?_)) <;> (try simp only [decide_eq_true_eq, decide_eq_false_iff_not, Bool.not_true, Bool.not_false, Bool.not_eq_true', Bool.not_eq_false', Bool.not_eq_eq_eq_not, Decidable.not_not] at h_) <;> (try simp only [r20_0, r20_1, c20, F20, hl1, hl2, hl3, a1, a2, a3, lenO_nil, h_, go_sem, Int.reduceTMod, Int.reduceTDiv, Int.reduceDiv, Int.reduceMod, Int.reduceAdd, Int.reduceSub, Int.reduceMul, Int.reduceNeg, Int.reducePow, Int.reduceEq, ↓reduceIte, Nat.reduceEqDiff, Nat.reduceAdd, Nat.reduceMul, Nat.reduceLeDiff, Nat.reduceSub, Nat.reduceLT, Int.reduceToNat, Int.reduceLT, Int.reduceLE, reduceCtorEq]))
      · skip
        try simp only [r20_0, r20_1, c20, F20, hl1, hl2, hl3, a1, a2, a3, lenO_nil, go_sem, Int.reduceTMod, Int.reduceTDiv, Int.reduceDiv, Int.reduceMod, Int.reduceAdd, Int.reduceSub, Int.reduceMul, Int.reduceNeg, Int.reducePow, Int.reduceEq, ↓reduceIte, Nat.reduceEqDiff, Nat.reduceAdd, Nat.reduceMul, Nat.reduceLeDiff, Nat.reduceSub, Nat.reduceLT, Int.reduceToNat, Int.reduceLT, Int.reduceLE, reduceCtorEq]
        repeat' ((first | refine FK_split (fun h_ => ?_) (fun h_ => ?_) | refine GK_split (fun h_ => ?_) (fun h_ => ?_) | refine ite_both (fun h_ => ?_) (fun h_ => ?_)) <;> (try simp only [decide_eq_true_eq, decide_eq_false_iff_not, Bool.not_true, Bool.not_false, Bool.not_eq_true', Bool.not_eq_false', Bool.not_eq_eq_eq_not, Decidable.not_not] at h_) <;> (try simp only [r20_0, r20_1, c20, F20, hl1, hl2, hl3, a1, a2, a3, lenO_nil, h_, go_sem, Int.reduceTMod, Int.reduceTDiv, Int.reduceDiv, Int.reduceMod, Int.reduceAdd, Int.reduceSub, Int.reduceMul, Int.reduceNeg, Int.reducePow, Int.reduceEq, ↓reduceIte, Nat.reduceEqDiff, Nat.reduceAdd, Nat.reduceMul, Nat.reduceLeDiff, Nat.reduceSub, Nat.reduceLT, Int.reduceToNat, Int.reduceLT, Int.reduceLE, reduceCtorEq]))
    · skip
      try simp only [r20_0, r20_1, c20, F20, hl1, hl2, hl3, a1, a2, lenO_nil, go_sem, Int.reduceTMod, Int.reduceTDiv, Int.reduceDiv, Int.reduceMod, Int.reduceAdd, Int.reduceSub, Int.reduceMul, Int.reduceNeg, Int.reducePow, Int.reduceEq, ↓reduceIte, Nat.reduceEqDiff, Nat.reduceAdd, Nat.reduceMul, Nat.reduceLeDiff, Nat.reduceSub, Nat.reduceLT, Int.reduceToNat, Int.reduceLT, Int.reduceLE, reduceCtorEq]
      repeat' ((first | refine FK_split (fun h_ => ?_) (fun h_ => ?_) | refine GK_split (fun h_ => ?_) (fun h_ => ?_) | refine ite_both (fun h_ => ?_) (fun h_ => ?_)) <;> (try simp only [decide_eq_true_eq, decide_eq_false_iff_not, Bool.not_true, Bool.not_false, Bool.not_eq_true', Bool.not_eq_false', Bool.not_eq_eq_eq_not, Decidable.not_not] at h_) <;> (try simp only [r20_0, r20_1, c20, F20, hl1, hl2, hl3, a1, a2, lenO_nil, h_, go_sem, Int.reduceTMod, Int.reduceTDiv, Int.reduceDiv, Int.reduceMod, Int.reduceAdd, Int.reduceSub, Int.reduceMul, Int.reduceNeg, Int.reducePow, Int.reduceEq, ↓reduceIte, Nat.reduceEqDiff, Nat.reduceAdd, Nat.reduceMul, Nat.reduceLeDiff, Nat.reduceSub, Nat.reduceLT, Int.reduceToNat, Int.reduceLT, Int.reduceLE, reduceCtorEq]))
  · skip
    try simp only [r20_0, r20_1, c20, F20, hl1, hl2, hl3, a1, lenO_nil, go_sem, Int.reduceTMod, Int.reduceTDiv, Int.reduceDiv, Int.reduceMod, Int.reduceAdd, Int.reduceSub, Int.reduceMul, Int.reduceNeg, Int.reducePow, Int.reduceEq, ↓reduceIte, Nat.reduceEqDiff, Nat.reduceAdd, Nat.reduceMul, Nat.reduceLeDiff, Nat.reduceSub, Nat.reduceLT, Int.reduceToNat, Int.reduceLT, Int.reduceLE, reduceCtorEq]
    repeat' ((first | refine FK_split (fun h_ => ?_) (fun h_ => ?_) | refine GK_split (fun h_ => ?_) (fun h_ => ?_) | refine ite_both (fun h_ => ?_) (fun h_ => ?_)) <;> (try simp only [decide_eq_true_eq, decide_eq_false_iff_not, Bool.not_true, Bool.not_false, Bool.not_eq_true', Bool.not_eq_false', Bool.not_eq_eq_eq_not, Decidable.not_not] at h_) <;> (try simp only [r20_0, r20_1, c20, F20, hl1, hl2, hl3, a1, lenO_nil, h_, go_sem, Int.reduceTMod, Int.reduceTDiv, Int.reduceDiv, Int.reduceMod, Int.reduceAdd, Int.reduceSub, Int.reduceMul, Int.reduceNeg, Int.reducePow, Int.reduceEq, ↓reduceIte, Nat.reduceEqDiff, Nat.reduceAdd, Nat.reduceMul, Nat.reduceLeDiff, Nat.reduceSub, Nat.reduceLT, Int.reduceToNat, Int.reduceLT, Int.reduceLE, reduceCtorEq]))

end Go.Proofs.Ytffhhgcgnillaaa.Sy
