import Derived.Test.YtffhhgcgnillaaaMgD
import Derived.ProofKit
import Derived.OpenShut
import Derived.Deep.Slices
/- Paints: checked, told right, compared. Conditions: those that each theorem names. -/
namespace Go.Proofs.Ytffhhgcgnillaaa.Sy
open Go Go.Proofs
set_option linter.unusedSimpArgs false
set_option linter.unusedVariables false
set_option maxRecDepth 20000
attribute [local go_sem] XK_seq XK_block XK_skip XK_exit XK_ret XK_cond XK_reg XK_dreg XK_ureg KN_seq KN_blk KN_lp KN_chk KN_chku KN_top KN_fin KX_seq KX_lp KX_blk KX_chk KX_top KR_seq KR_blk KR_lp KR_chk KR_top KR_fin FK_true FK_false RK_nil RK_mv RK_pick RK_alloc RK_box RK_build RK_bslice RK_load1 RK_loadA RK_store RK_nilchk RK_bin RK_beq RK_eqv RK_eqnil RK_un RK_conv RK_mkfn RK_mkslice RK_slS RK_slA RK_fadr RK_fld RK_iadrA RK_iadrS RK_idxA RK_ext RK_lenC RK_cap RK_app RK_cpy RK_mn RK_mx RK_len RK_carry RK_clr carryR um0 um1 ThenK_some RK_guard GK_tt GK_ff GK_tf GK_ft GK_none QK_some RK_callQ RK_callZ VK_clo RK_callV
  evalOp evO evOs upd_at unfrz_at putE_some putE_none boolOf_b boolOf_tup Option.map_some evRes pack_one pack_two pack_three pack_none List.getD_cons_zero List.getD_cons_succ getD_nil
  Option.some.injEq exists_eq_left' Reg.cs? fillC setL List.set_cons_zero List.set_cons_succ List.length_cons List.length_nil rd_upd rd_updn rdB wr List.drop_zero List.drop_succ_cons List.take_succ_cons List.take_zero List.getElem?_cons_zero List.getElem?_cons_succ
  ix Int.toNat_zero lenO_sl lenO_nil nadd na_eq na_eq' na_lt na_ee na_ll na_ne na_ne' na_tt
attribute [local go_sem] Reg.flat_one Reg.flat_agg Reg.flat_tup flats_nil flats_cons Cell.flat_sc Cell.flat_ptr List.all_cons List.all_nil disOk safeOk safeR decide_eq_true_eq decide_eq_false_iff_not
  List.map_cons List.map_nil List.cons_append List.nil_append List.append_nil evalOp.capsOf Bool.false_bne Bool.bne_false Bool.true_bne Bool.bne_true bne_self_eq_false beq_self_eq_true Bool.not_not Bool.false_and Bool.and_false Bool.true_or Bool.or_true beq_iff_eq eqCells
  Bool.true_beq Bool.false_beq Bool.not_eq_true' Bool.not_eq_eq_eq_not Bool.not_eq_false' and_false false_and frz_at idOf Option.isSome_some Bool.and_eq_true
attribute [local go_sem] wr_eq bV_add bV_sub bV_mul bV_eql bV_neq bV_lss bV_leq bV_gtr bV_geq bV_quo bV_rem bV_shr bV_shl uV_not uV_neg wrapU bits_and bits_or bits_xor IntKind.bits Nat.min_eq_left Nat.min_eq_right Nat.min_self
attribute [local go_sem] bne_iff_ne Int.cast_ofNat_Int Nat.zero_add Nat.add_zero and_self and_true true_and ne_eq not_false_eq_true not_true_eq_false decide_true decide_false Bool.false_eq_true Bool.not_true Bool.not_false Bool.true_and Bool.and_true Bool.or_false Bool.false_or Bool.and_self

structure Pai where
  k : Int
  c0 : Int
  c1 : Int
  c2 : Int
  c3 : Int
  fx : Int
  fy : Int
  tx : Int
  ty : Int
  st : Cell
abbrev Pai.cs (p : Pai) : List Cell := [I p.k, U8 p.c0, U8 p.c1, U8 p.c2, U8 p.c3, I p.fx, I p.fy, I p.tx, I p.ty, p.st]
def Pai.by (p : Pai) : Prop := (byteB p.c0 ∧ byteB p.c1) ∧ byteB p.c2 ∧ byteB p.c3
def farB (x y : Int) : Bool := decide (x < -16777216) || (decide (16777216 < x) || (decide (y < -16777216) || decide (16777216 < y)))
theorem v_far (x y : Int) (m : Mem) (n : Nat) : callF TA 8 [.agg [I x, I y]] m n = some (RB (farB x y)) := by
  refine callF_of (Fn_ofK (fn := F8) rfl (by simp [F8]) ?_)
  unfold farB
  by_cases h1 : x < -16777216
  · skip
    try simp only [r8_0, r8_1, c8, F8, h1, Bool.true_or, Bool.or_true, go_sem, Int.reduceTMod, Int.reduceTDiv, Int.reduceDiv, Int.reduceMod, Int.reduceAdd, Int.reduceSub, Int.reduceMul, Int.reduceNeg, Int.reducePow, Int.reduceEq, ↓reduceIte, Nat.reduceEqDiff, Nat.reduceAdd, Nat.reduceMul, Nat.reduceLeDiff, Nat.reduceSub, Nat.reduceLT, Int.reduceToNat, Int.reduceLT, Int.reduceLE, reduceCtorEq]
    repeat' ((first | refine FK_split (fun h_ => ?_) (fun h_ => ?_) | refine GK_split (fun h_ => ?_) (fun h_ => ?_) | refine ite_both (fun h_ => ?_) (fun h_ => ?_)) <;> (try simp only [decide_eq_true_eq, decide_eq_false_iff_not, Bool.not_true, Bool.not_false, Bool.not_eq_true', Bool.not_eq_false', Bool.not_eq_eq_eq_not, Decidable.not_not] at h_) <;> (try simp only [r8_0, r8_1, c8, F8, h1, Bool.true_or, Bool.or_true, h_, go_sem, Int.reduceTMod, Int.reduceTDiv, Int.reduceDiv, Int.reduceMod, Int.reduceAdd, Int.reduceSub, Int.reduceMul, Int.reduceNeg, Int.reducePow, Int.reduceEq, ↓reduceIte, Nat.reduceEqDiff, Nat.reduceAdd, Nat.reduceMul, Nat.reduceLeDiff, Nat.reduceSub, Nat.reduceLT, Int.reduceToNat, Int.reduceLT, Int.reduceLE, reduceCtorEq]))
  · by_cases h2 : 16777216 < x
    · skip
      try simp only [r8_0, r8_1, c8, F8, h1, h2, Bool.true_or, Bool.or_true, go_sem, Int.reduceTMod, Int.reduceTDiv, Int.reduceDiv, Int.reduceMod, Int.reduceAdd, Int.reduceSub, Int.reduceMul, Int.reduceNeg, Int.reducePow, Int.reduceEq, ↓reduceIte, Nat.reduceEqDiff, Nat.reduceAdd, Nat.reduceMul, Nat.reduceLeDiff, Nat.reduceSub, Nat.reduceLT, Int.reduceToNat, Int.reduceLT, Int.reduceLE, reduceCtorEq]
      repeat' ((first | refine FK_split (fun h_ => ?_) (fun h_ => ?_) | refine GK_split (fun h_ => ?_) (fun h_ => ?_) | refine ite_both (fun h_ => ?_) (fun h_ => ?_)) <;> (try simp only [decide_eq_true_eq, decide_eq_false_iff_not, Bool.not_true, Bool.not_false, Bool.not_eq_true', Bool.not_eq_false', Bool.not_eq_eq_eq_not, Decidable.not_not] at h_) <;> (try simp only [r8_0, r8_1, c8, F8, h1, h2, Bool.true_or, Bool.or_true, h_, go_sem, Int.reduceTMod, Int.reduceTDiv, Int.reduceDiv, Int.reduceMod, Int.reduceAdd, Int.reduceSub, Int.reduceMul, Int.reduceNeg, Int.reducePow, Int.reduceEq, ↓reduceIte, Nat.reduceEqDiff, Nat.reduceAdd, Nat.reduceMul, Nat.reduceLeDiff, Nat.reduceSub, Nat.reduceLT, Int.reduceToNat, Int.reduceLT, Int.reduceLE, reduceCtorEq]))
    · by_cases h3 : y < -16777216
      · skip
        try simp only [r8_0, r8_1, c8, F8, h1, h2, h3, Bool.true_or, Bool.or_true, go_sem, Int.reduceTMod, Int.reduceTDiv, Int.reduceDiv, Int.reduceMod, Int.reduceAdd, Int.reduceSub, Int.reduceMul, Int.reduceNeg, Int.reducePow, Int.reduceEq, ↓reduceIte, Nat.reduceEqDiff, Nat.reduceAdd, Nat.reduceMul, Nat.reduceLeDiff, Nat.reduceSub, Nat.reduceLT, Int.reduceToNat, Int.reduceLT, Int.reduceLE, reduceCtorEq]
        repeat' ((first | refine FK_split (fun h_ => ?_) (fun h_ => ?_) | refine GK_split (fun h_ => ?_) (fun h_ => ?_) | refine ite_both (fun h_ => ?_) (fun h_ => ?_)) <;> (try simp only [decide_eq_true_eq, decide_eq_false_iff_not, Bool.not_true, Bool.not_false, Bool.not_eq_true', Bool.not_eq_false', Bool.not_eq_eq_eq_not, Decidable.not_not] at h_) <;> (try simp only [r8_0, r8_1, c8, F8, h1, h2, h3, Bool.true_or, Bool.or_true, h_, go_sem, Int.reduceTMod, Int.reduceTDiv, Int.reduceDiv, Int.reduceMod, Int.reduceAdd, Int.reduceSub, Int.reduceMul, Int.reduceNeg, Int.reducePow, Int.reduceEq, ↓reduceIte, Nat.reduceEqDiff, Nat.reduceAdd, Nat.reduceMul, Nat.reduceLeDiff, Nat.reduceSub, Nat.reduceLT, Int.reduceToNat, Int.reduceLT, Int.reduceLE, reduceCtorEq]))
      · skip
        try simp only [r8_0, r8_1, c8, F8, h1, h2, h3, Bool.true_or, Bool.or_true, go_sem, Int.reduceTMod, Int.reduceTDiv, Int.reduceDiv, Int.reduceMod, Int.reduceAdd, Int.reduceSub, Int.reduceMul, Int.reduceNeg, Int.reducePow, Int.reduceEq, ↓reduceIte, Nat.reduceEqDiff, Nat.reduceAdd, Nat.reduceMul, Nat.reduceLeDiff, Nat.reduceSub, Nat.reduceLT, Int.reduceToNat, Int.reduceLT, Int.reduceLE, reduceCtorEq]
        repeat' ((first | refine FK_split (fun h_ => ?_) (fun h_ => ?_) | refine GK_split (fun h_ => ?_) (fun h_ => ?_) | refine ite_both (fun h_ => ?_) (fun h_ => ?_)) <;> (try simp only [decide_eq_true_eq, decide_eq_false_iff_not, Bool.not_true, Bool.not_false, Bool.not_eq_true', Bool.not_eq_false', Bool.not_eq_eq_eq_not, Decidable.not_not] at h_) <;> (try simp only [r8_0, r8_1, c8, F8, h1, h2, h3, Bool.true_or, Bool.or_true, h_, go_sem, Int.reduceTMod, Int.reduceTDiv, Int.reduceDiv, Int.reduceMod, Int.reduceAdd, Int.reduceSub, Int.reduceMul, Int.reduceNeg, Int.reducePow, Int.reduceEq, ↓reduceIte, Nat.reduceEqDiff, Nat.reduceAdd, Nat.reduceMul, Nat.reduceLeDiff, Nat.reduceSub, Nat.reduceLT, Int.reduceToNat, Int.reduceLT, Int.reduceLE, reduceCtorEq]))
theorem v_nearS (x y : Int) (m : Mem) (n : Nat) : callF TA 31 [.agg [I x, I y]] m n = some (RB (!farB x y)) := by
  refine callF_of (Fn_ofK (fn := F31) rfl (by simp [F31]) ?_)
  have e : (decide (-16777216 ≤ mnI x y) && decide (mxI x y ≤ 16777216)) = !farB x y := by
    unfold farB mnI mxI
    rw [Bool.eq_iff_iff]
    simp only [Bool.and_eq_true, decide_eq_true_eq, Bool.not_eq_true', Bool.or_eq_false_iff, decide_eq_false_iff_not]
    repeat' split
    all_goals omega
  rw [← e]
  by_cases h1 : -16777216 ≤ mnI x y
  · skip
    try simp only [r31_0, r31_1, c31, F31, minI_two, maxI_two, h1, go_sem, Int.reduceTMod, Int.reduceTDiv, Int.reduceDiv, Int.reduceMod, Int.reduceAdd, Int.reduceSub, Int.reduceMul, Int.reduceNeg, Int.reducePow, Int.reduceEq, ↓reduceIte, Nat.reduceEqDiff, Nat.reduceAdd, Nat.reduceMul, Nat.reduceLeDiff, Nat.reduceSub, Nat.reduceLT, Int.reduceToNat, Int.reduceLT, Int.reduceLE, reduceCtorEq]
    repeat' ((first | refine FK_split (fun h_ => ?_) (fun h_ => ?_) | refine GK_split (fun h_ => ?_) (fun h_ => ?_) | refine ite_both (fun h_ => ?_) (fun h_ => ?_)) <;> (try simp only [decide_eq_true_eq, decide_eq_false_iff_not, Bool.not_true, Bool.not_false, Bool.not_eq_true', Bool.not_eq_false', Bool.not_eq_eq_eq_not, Decidable.not_not] at h_) <;> (try simp only [r31_0, r31_1, c31, F31, minI_two, maxI_two, h1, h_, go_sem, Int.reduceTMod, Int.reduceTDiv, Int.reduceDiv, Int.reduceMod, Int.reduceAdd, Int.reduceSub, Int.reduceMul, Int.reduceNeg, Int.reducePow, Int.reduceEq, ↓reduceIte, Nat.reduceEqDiff, Nat.reduceAdd, Nat.reduceMul, Nat.reduceLeDiff, Nat.reduceSub, Nat.reduceLT, Int.reduceToNat, Int.reduceLT, Int.reduceLE, reduceCtorEq]))
  · skip
    try simp only [r31_0, r31_1, c31, F31, minI_two, maxI_two, h1, go_sem, Int.reduceTMod, Int.reduceTDiv, Int.reduceDiv, Int.reduceMod, Int.reduceAdd, Int.reduceSub, Int.reduceMul, Int.reduceNeg, Int.reducePow, Int.reduceEq, ↓reduceIte, Nat.reduceEqDiff, Nat.reduceAdd, Nat.reduceMul, Nat.reduceLeDiff, Nat.reduceSub, Nat.reduceLT, Int.reduceToNat, Int.reduceLT, Int.reduceLE, reduceCtorEq]
    repeat' ((first | refine FK_split (fun h_ => ?_) (fun h_ => ?_) | refine GK_split (fun h_ => ?_) (fun h_ => ?_) | refine ite_both (fun h_ => ?_) (fun h_ => ?_)) <;> (try simp only [decide_eq_true_eq, decide_eq_false_iff_not, Bool.not_true, Bool.not_false, Bool.not_eq_true', Bool.not_eq_false', Bool.not_eq_eq_eq_not, Decidable.not_not] at h_) <;> (try simp only [r31_0, r31_1, c31, F31, minI_two, maxI_two, h1, h_, go_sem, Int.reduceTMod, Int.reduceTDiv, Int.reduceDiv, Int.reduceMod, Int.reduceAdd, Int.reduceSub, Int.reduceMul, Int.reduceNeg, Int.reducePow, Int.reduceEq, ↓reduceIte, Nat.reduceEqDiff, Nat.reduceAdd, Nat.reduceMul, Nat.reduceLeDiff, Nat.reduceSub, Nat.reduceLT, Int.reduceToNat, Int.reduceLT, Int.reduceLE, reduceCtorEq]))
def Pai.zf (p : Pai) : Bool := p.fx == 0 && p.fy == 0
def Pai.zt (p : Pai) : Bool := p.tx == 0 && p.ty == 0
def Pai.cz (p : Pai) : Bool := p.c0 == 0 && (p.c1 == 0 && (p.c2 == 0 && p.c3 == 0))
def Pai.ft (p : Pai) : Bool := p.fx == p.tx && p.fy == p.ty
def Pai.cr (p : Pai) : Bool := crB p.c0 p.c1 p.c2 p.c3
/-- The error's number of a paint. -/
def rightV (p : Pai) (l : List Stp) : Int :=
  if p.k < 0 ∨ 3 < p.k then 33 else if p.k = 0 then (if (p.zf && (p.zt && decide (l.length = 0)) && p.cz) = true then 0 else 30)
  else if p.k = 1 then (if (p.zf && (p.zt && decide (l.length = 0)) && p.cr) = true then 0 else 30)
  else (if (p.cz && (!farB p.fx p.fy && (!farB p.tx p.ty && (!p.ft && stopsB l)))) = true then 0 else 30)
theorem cz_cr {p : Pai} (h : p.cz = true) : p.cr = true := by
  unfold Pai.cz at h
  simp only [Bool.and_eq_true, beq_iff_eq] at h
  unfold Pai.cr crB
  rw [h.1, h.2.1, h.2.2.1, h.2.2.2]
  rfl
theorem OL.ge {α : Type} {enc : α → List Cell} {sz base : Nat} {m : Mem} {n : Nat} {r : Reg} {l : List α} (h : OL enc sz base m n r l) {id : Nat} (hi : sid r = some id) : base ≤ id := by
  rcases h with ⟨rfl, _⟩ | ⟨id', rfl, h2, _⟩
  · cases hi
  · simp only [sid, Option.some.injEq] at hi; omega
theorem v_right (p : Pai) (l : List Stp) (m : Mem) (n : Nat) (hr : RSt m n (.one p.st) l) (hb : ∀ s ∈ l, s.by) (hp : p.by) (hl : l.length < 4294967296) : callF TA 7 [.agg p.cs] m n = some (RI (rightV p l)) := by
  refine callF_of (Fn_ofK (fn := F7) rfl (by simp [F7]) ?_)
  have hlen := hr.len
  have ez : ((l.length : Int) = 0) = (l.length = 0) := by apply propext; omega
  by_cases k1 : p.k < 0
  · have e : rightV p l = 33 := by unfold rightV; rw [if_pos (Or.inl k1)]
    try simp only [r7_0, r7_1, r7_2, r7_3, r7_4, r7_7, r7_8, r7_9, r7_10, r7_11, r7_12, r7_5, r7_6, r7_13, c7, F7, k1, e, go_sem, Int.reduceTMod, Int.reduceTDiv, Int.reduceDiv, Int.reduceMod, Int.reduceAdd, Int.reduceSub, Int.reduceMul, Int.reduceNeg, Int.reducePow, Int.reduceEq, ↓reduceIte, Nat.reduceEqDiff, Nat.reduceAdd, Nat.reduceMul, Nat.reduceLeDiff, Nat.reduceSub, Nat.reduceLT, Int.reduceToNat, Int.reduceLT, Int.reduceLE, reduceCtorEq]
    repeat' ((first | refine FK_split (fun h_ => ?_) (fun h_ => ?_) | refine GK_split (fun h_ => ?_) (fun h_ => ?_) | refine ite_both (fun h_ => ?_) (fun h_ => ?_)) <;> (try simp only [decide_eq_true_eq, decide_eq_false_iff_not, Bool.not_true, Bool.not_false, Bool.not_eq_true', Bool.not_eq_false', Bool.not_eq_eq_eq_not, Decidable.not_not] at h_) <;> (try simp only [r7_0, r7_1, r7_2, r7_3, r7_4, r7_7, r7_8, r7_9, r7_10, r7_11, r7_12, r7_5, r7_6, r7_13, c7, F7, k1, e, h_, go_sem, Int.reduceTMod, Int.reduceTDiv, Int.reduceDiv, Int.reduceMod, Int.reduceAdd, Int.reduceSub, Int.reduceMul, Int.reduceNeg, Int.reducePow, Int.reduceEq, ↓reduceIte, Nat.reduceEqDiff, Nat.reduceAdd, Nat.reduceMul, Nat.reduceLeDiff, Nat.reduceSub, Nat.reduceLT, Int.reduceToNat, Int.reduceLT, Int.reduceLE, reduceCtorEq]))
  · by_cases k2 : 3 < p.k
    · have e : rightV p l = 33 := by unfold rightV; rw [if_pos (Or.inr k2)]
      try simp only [r7_0, r7_1, r7_2, r7_3, r7_4, r7_7, r7_8, r7_9, r7_10, r7_11, r7_12, r7_5, r7_6, r7_13, c7, F7, k1, k2, e, go_sem, Int.reduceTMod, Int.reduceTDiv, Int.reduceDiv, Int.reduceMod, Int.reduceAdd, Int.reduceSub, Int.reduceMul, Int.reduceNeg, Int.reducePow, Int.reduceEq, ↓reduceIte, Nat.reduceEqDiff, Nat.reduceAdd, Nat.reduceMul, Nat.reduceLeDiff, Nat.reduceSub, Nat.reduceLT, Int.reduceToNat, Int.reduceLT, Int.reduceLE, reduceCtorEq]
      repeat' ((first | refine FK_split (fun h_ => ?_) (fun h_ => ?_) | refine GK_split (fun h_ => ?_) (fun h_ => ?_) | refine ite_both (fun h_ => ?_) (fun h_ => ?_)) <;> (try simp only [decide_eq_true_eq, decide_eq_false_iff_not, Bool.not_true, Bool.not_false, Bool.not_eq_true', Bool.not_eq_false', Bool.not_eq_eq_eq_not, Decidable.not_not] at h_) <;> (try simp only [r7_0, r7_1, r7_2, r7_3, r7_4, r7_7, r7_8, r7_9, r7_10, r7_11, r7_12, r7_5, r7_6, r7_13, c7, F7, k1, k2, e, h_, go_sem, Int.reduceTMod, Int.reduceTDiv, Int.reduceDiv, Int.reduceMod, Int.reduceAdd, Int.reduceSub, Int.reduceMul, Int.reduceNeg, Int.reducePow, Int.reduceEq, ↓reduceIte, Nat.reduceEqDiff, Nat.reduceAdd, Nat.reduceMul, Nat.reduceLeDiff, Nat.reduceSub, Nat.reduceLT, Int.reduceToNat, Int.reduceLT, Int.reduceLE, reduceCtorEq]))
    · have h1 : (p.fx == 0 && p.fy == 0) = p.zf := rfl
      have h2 : (p.tx == 0 && p.ty == 0) = p.zt := rfl
      have h3 : (p.c0 == 0 && (p.c1 == 0 && (p.c2 == 0 && p.c3 == 0))) = p.cz := rfl
      have h4 : (p.fx == p.tx && p.fy == p.ty) = p.ft := rfl
      have h5 := v_rCRight p.c0 p.c1 p.c2 p.c3
      rw [show crB p.c0 p.c1 p.c2 p.c3 = p.cr from rfl] at h5
      have h6 := v_refColor hp.1.1 hp.1.2 hp.2.1 hp.2.2
      have f1 := v_far p.fx p.fy
      have f2 := v_far p.tx p.ty
      have hR : rightV p l = if p.k = 0 then (if (p.zf && (p.zt && decide (l.length = 0)) && p.cz) = true then 0 else 30)
          else if p.k = 1 then (if (p.zf && (p.zt && decide (l.length = 0)) && p.cr) = true then 0 else 30)
          else (if (p.cz && (!farB p.fx p.fy && (!farB p.tx p.ty && (!p.ft && stopsB l)))) = true then 0 else 30) := by
        unfold rightV; rw [if_neg (by omega)]
      by_cases g0 : p.k = 0
      · rw [if_pos g0] at hR
        rw [hR]
        try simp only [r7_0, r7_1, r7_2, r7_3, r7_4, r7_7, r7_8, r7_9, r7_10, r7_11, r7_12, r7_5, r7_6, r7_13, c7, F7, k1, k2, g0, h1, h2, h3, h4, h5, h6, hlen, ez, go_sem, Int.reduceTMod, Int.reduceTDiv, Int.reduceDiv, Int.reduceMod, Int.reduceAdd, Int.reduceSub, Int.reduceMul, Int.reduceNeg, Int.reducePow, Int.reduceEq, ↓reduceIte, Nat.reduceEqDiff, Nat.reduceAdd, Nat.reduceMul, Nat.reduceLeDiff, Nat.reduceSub, Nat.reduceLT, Int.reduceToNat, Int.reduceLT, Int.reduceLE, reduceCtorEq]
        repeat' ((first | refine FK_split (fun h_ => ?_) (fun h_ => ?_) | refine GK_split (fun h_ => ?_) (fun h_ => ?_) | refine ite_both (fun h_ => ?_) (fun h_ => ?_)) <;> (try simp only [decide_eq_true_eq, decide_eq_false_iff_not, Bool.not_true, Bool.not_false, Bool.not_eq_true', Bool.not_eq_false', Bool.not_eq_eq_eq_not, Decidable.not_not] at h_) <;> (try simp only [r7_0, r7_1, r7_2, r7_3, r7_4, r7_7, r7_8, r7_9, r7_10, r7_11, r7_12, r7_5, r7_6, r7_13, c7, F7, k1, k2, g0, h1, h2, h3, h4, h5, h6, hlen, ez, h_, go_sem, Int.reduceTMod, Int.reduceTDiv, Int.reduceDiv, Int.reduceMod, Int.reduceAdd, Int.reduceSub, Int.reduceMul, Int.reduceNeg, Int.reducePow, Int.reduceEq, ↓reduceIte, Nat.reduceEqDiff, Nat.reduceAdd, Nat.reduceMul, Nat.reduceLeDiff, Nat.reduceSub, Nat.reduceLT, Int.reduceToNat, Int.reduceLT, Int.reduceLE, reduceCtorEq]))
        all_goals simp [*]
      · rw [if_neg g0] at hR
        by_cases g1 : p.k = 1
        · rw [if_pos g1] at hR
          rw [hR]
          try simp only [r7_0, r7_1, r7_2, r7_3, r7_4, r7_7, r7_8, r7_9, r7_10, r7_11, r7_12, r7_5, r7_6, r7_13, c7, F7, k1, k2, g0, g1, h1, h2, h3, h4, h5, h6, hlen, ez, go_sem, Int.reduceTMod, Int.reduceTDiv, Int.reduceDiv, Int.reduceMod, Int.reduceAdd, Int.reduceSub, Int.reduceMul, Int.reduceNeg, Int.reducePow, Int.reduceEq, ↓reduceIte, Nat.reduceEqDiff, Nat.reduceAdd, Nat.reduceMul, Nat.reduceLeDiff, Nat.reduceSub, Nat.reduceLT, Int.reduceToNat, Int.reduceLT, Int.reduceLE, reduceCtorEq]
          repeat' ((first | refine FK_split (fun h_ => ?_) (fun h_ => ?_) | refine GK_split (fun h_ => ?_) (fun h_ => ?_) | refine ite_both (fun h_ => ?_) (fun h_ => ?_)) <;> (try simp only [decide_eq_true_eq, decide_eq_false_iff_not, Bool.not_true, Bool.not_false, Bool.not_eq_true', Bool.not_eq_false', Bool.not_eq_eq_eq_not, Decidable.not_not] at h_) <;> (try simp only [r7_0, r7_1, r7_2, r7_3, r7_4, r7_7, r7_8, r7_9, r7_10, r7_11, r7_12, r7_5, r7_6, r7_13, c7, F7, k1, k2, g0, g1, h1, h2, h3, h4, h5, h6, hlen, ez, h_, go_sem, Int.reduceTMod, Int.reduceTDiv, Int.reduceDiv, Int.reduceMod, Int.reduceAdd, Int.reduceSub, Int.reduceMul, Int.reduceNeg, Int.reducePow, Int.reduceEq, ↓reduceIte, Nat.reduceEqDiff, Nat.reduceAdd, Nat.reduceMul, Nat.reduceLeDiff, Nat.reduceSub, Nat.reduceLT, Int.reduceToNat, Int.reduceLT, Int.reduceLE, reduceCtorEq]))
          all_goals simp [*]
        · rw [if_neg g1] at hR
          cases b1 : p.cz
          · have e : rightV p l = 30 := by rw [hR, b1]; rfl
            try simp only [r7_0, r7_1, r7_2, r7_3, r7_4, r7_7, r7_8, r7_9, r7_10, r7_11, r7_12, r7_5, r7_6, r7_13, c7, F7, k1, k2, g0, g1, h1, h2, h3, h4, hlen, ez, b1, e, go_sem, Int.reduceTMod, Int.reduceTDiv, Int.reduceDiv, Int.reduceMod, Int.reduceAdd, Int.reduceSub, Int.reduceMul, Int.reduceNeg, Int.reducePow, Int.reduceEq, ↓reduceIte, Nat.reduceEqDiff, Nat.reduceAdd, Nat.reduceMul, Nat.reduceLeDiff, Nat.reduceSub, Nat.reduceLT, Int.reduceToNat, Int.reduceLT, Int.reduceLE, reduceCtorEq]
            repeat' ((first | refine FK_split (fun h_ => ?_) (fun h_ => ?_) | refine GK_split (fun h_ => ?_) (fun h_ => ?_) | refine ite_both (fun h_ => ?_) (fun h_ => ?_)) <;> (try simp only [decide_eq_true_eq, decide_eq_false_iff_not, Bool.not_true, Bool.not_false, Bool.not_eq_true', Bool.not_eq_false', Bool.not_eq_eq_eq_not, Decidable.not_not] at h_) <;> (try simp only [r7_0, r7_1, r7_2, r7_3, r7_4, r7_7, r7_8, r7_9, r7_10, r7_11, r7_12, r7_5, r7_6, r7_13, c7, F7, k1, k2, g0, g1, h1, h2, h3, h4, hlen, ez, b1, e, h_, go_sem, Int.reduceTMod, Int.reduceTDiv, Int.reduceDiv, Int.reduceMod, Int.reduceAdd, Int.reduceSub, Int.reduceMul, Int.reduceNeg, Int.reducePow, Int.reduceEq, ↓reduceIte, Nat.reduceEqDiff, Nat.reduceAdd, Nat.reduceMul, Nat.reduceLeDiff, Nat.reduceSub, Nat.reduceLT, Int.reduceToNat, Int.reduceLT, Int.reduceLE, reduceCtorEq]))
          · cases b2 : farB p.fx p.fy
            · cases b3 : farB p.tx p.ty
              · cases b4 : p.ft
                · have e : rightV p l = if stopsB l = true then 0 else 30 := by rw [hR, b1, b2, b3, b4]; simp
                  rw [b2] at f1
                  rw [b3] at f2
                  rw [e]
                  try simp only [r7_0, r7_1, r7_2, r7_3, r7_4, r7_7, r7_8, r7_9, r7_10, r7_11, r7_12, r7_5, r7_6, r7_13, c7, F7, k1, k2, g0, g1, h1, h2, h3, h4, hlen, ez, b1, b4, f1, f2, go_sem, Int.reduceTMod, Int.reduceTDiv, Int.reduceDiv, Int.reduceMod, Int.reduceAdd, Int.reduceSub, Int.reduceMul, Int.reduceNeg, Int.reducePow, Int.reduceEq, ↓reduceIte, Nat.reduceEqDiff, Nat.reduceAdd, Nat.reduceMul, Nat.reduceLeDiff, Nat.reduceSub, Nat.reduceLT, Int.reduceToNat, Int.reduceLT, Int.reduceLE, reduceCtorEq]
                  repeat' ((first | refine FK_split (fun h_ => ?_) (fun h_ => ?_) | refine GK_split (fun h_ => ?_) (fun h_ => ?_) | refine ite_both (fun h_ => ?_) (fun h_ => ?_)) <;> (try simp only [decide_eq_true_eq, decide_eq_false_iff_not, Bool.not_true, Bool.not_false, Bool.not_eq_true', Bool.not_eq_false', Bool.not_eq_eq_eq_not, Decidable.not_not] at h_) <;> (try simp only [r7_0, r7_1, r7_2, r7_3, r7_4, r7_7, r7_8, r7_9, r7_10, r7_11, r7_12, r7_5, r7_6, r7_13, c7, F7, k1, k2, g0, g1, h1, h2, h3, h4, hlen, ez, b1, b4, f1, f2, h_, go_sem, Int.reduceTMod, Int.reduceTDiv, Int.reduceDiv, Int.reduceMod, Int.reduceAdd, Int.reduceSub, Int.reduceMul, Int.reduceNeg, Int.reducePow, Int.reduceEq, ↓reduceIte, Nat.reduceEqDiff, Nat.reduceAdd, Nat.reduceMul, Nat.reduceLeDiff, Nat.reduceSub, Nat.reduceLT, Int.reduceToNat, Int.reduceLT, Int.reduceLE, reduceCtorEq]))
                  all_goals
                    refine RK_callk ?_
                    refine (v_refStops (.one p.st) l _ _ (RL.frz (hr.keep (show n ≤ n + 1 by omega) (fun id hid => upd_ne _ _ (by omega)))) hb hl).mono ?_
                    rintro r1 m1 n1 ⟨ho, hn1⟩
                    have hx : RRi (unfrz (upd m n (some ⟨p.cs, true⟩)) (n + 1) m1) (max (n + 1) n1) r1 l := (ho.rl ri5).keep' (by omega) (fun id hid => by rw [unfrz_at, if_neg (by have := ho.ge hid; omega)])
                    have vS := v_Stops r1 l _ _ hx.frz hl
                    cases hs : stopsB l
                    · rw [hs] at vS
                      try simp only [vS, go_sem, Int.reduceTMod, Int.reduceTDiv, Int.reduceDiv, Int.reduceMod, Int.reduceAdd, Int.reduceSub, Int.reduceMul, Int.reduceNeg, Int.reducePow, Int.reduceEq, ↓reduceIte, Nat.reduceEqDiff, Nat.reduceAdd, Nat.reduceMul, Nat.reduceLeDiff, Nat.reduceSub, Nat.reduceLT, Int.reduceToNat, Int.reduceLT, Int.reduceLE, reduceCtorEq]
                      repeat' ((first | refine FK_split (fun h_ => ?_) (fun h_ => ?_) | refine GK_split (fun h_ => ?_) (fun h_ => ?_) | refine ite_both (fun h_ => ?_) (fun h_ => ?_)) <;> (try simp only [decide_eq_true_eq, decide_eq_false_iff_not, Bool.not_true, Bool.not_false, Bool.not_eq_true', Bool.not_eq_false', Bool.not_eq_eq_eq_not, Decidable.not_not] at h_) <;> (try simp only [vS, h_, go_sem, Int.reduceTMod, Int.reduceTDiv, Int.reduceDiv, Int.reduceMod, Int.reduceAdd, Int.reduceSub, Int.reduceMul, Int.reduceNeg, Int.reducePow, Int.reduceEq, ↓reduceIte, Nat.reduceEqDiff, Nat.reduceAdd, Nat.reduceMul, Nat.reduceLeDiff, Nat.reduceSub, Nat.reduceLT, Int.reduceToNat, Int.reduceLT, Int.reduceLE, reduceCtorEq]))
                    · rw [hs] at vS
                      try simp only [vS, go_sem, Int.reduceTMod, Int.reduceTDiv, Int.reduceDiv, Int.reduceMod, Int.reduceAdd, Int.reduceSub, Int.reduceMul, Int.reduceNeg, Int.reducePow, Int.reduceEq, ↓reduceIte, Nat.reduceEqDiff, Nat.reduceAdd, Nat.reduceMul, Nat.reduceLeDiff, Nat.reduceSub, Nat.reduceLT, Int.reduceToNat, Int.reduceLT, Int.reduceLE, reduceCtorEq]
                      repeat' ((first | refine FK_split (fun h_ => ?_) (fun h_ => ?_) | refine GK_split (fun h_ => ?_) (fun h_ => ?_) | refine ite_both (fun h_ => ?_) (fun h_ => ?_)) <;> (try simp only [decide_eq_true_eq, decide_eq_false_iff_not, Bool.not_true, Bool.not_false, Bool.not_eq_true', Bool.not_eq_false', Bool.not_eq_eq_eq_not, Decidable.not_not] at h_) <;> (try simp only [vS, h_, go_sem, Int.reduceTMod, Int.reduceTDiv, Int.reduceDiv, Int.reduceMod, Int.reduceAdd, Int.reduceSub, Int.reduceMul, Int.reduceNeg, Int.reducePow, Int.reduceEq, ↓reduceIte, Nat.reduceEqDiff, Nat.reduceAdd, Nat.reduceMul, Nat.reduceLeDiff, Nat.reduceSub, Nat.reduceLT, Int.reduceToNat, Int.reduceLT, Int.reduceLE, reduceCtorEq]))
                · have e : rightV p l = 30 := by rw [hR, b4]; simp
                  rw [b2] at f1
                  rw [b3] at f2
                  try simp only [r7_0, r7_1, r7_2, r7_3, r7_4, r7_7, r7_8, r7_9, r7_10, r7_11, r7_12, r7_5, r7_6, r7_13, c7, F7, k1, k2, g0, g1, h1, h2, h3, h4, hlen, ez, b1, b4, f1, f2, e, go_sem, Int.reduceTMod, Int.reduceTDiv, Int.reduceDiv, Int.reduceMod, Int.reduceAdd, Int.reduceSub, Int.reduceMul, Int.reduceNeg, Int.reducePow, Int.reduceEq, ↓reduceIte, Nat.reduceEqDiff, Nat.reduceAdd, Nat.reduceMul, Nat.reduceLeDiff, Nat.reduceSub, Nat.reduceLT, Int.reduceToNat, Int.reduceLT, Int.reduceLE, reduceCtorEq]
                  repeat' ((first | refine FK_split (fun h_ => ?_) (fun h_ => ?_) | refine GK_split (fun h_ => ?_) (fun h_ => ?_) | refine ite_both (fun h_ => ?_) (fun h_ => ?_)) <;> (try simp only [decide_eq_true_eq, decide_eq_false_iff_not, Bool.not_true, Bool.not_false, Bool.not_eq_true', Bool.not_eq_false', Bool.not_eq_eq_eq_not, Decidable.not_not] at h_) <;> (try simp only [r7_0, r7_1, r7_2, r7_3, r7_4, r7_7, r7_8, r7_9, r7_10, r7_11, r7_12, r7_5, r7_6, r7_13, c7, F7, k1, k2, g0, g1, h1, h2, h3, h4, hlen, ez, b1, b4, f1, f2, e, h_, go_sem, Int.reduceTMod, Int.reduceTDiv, Int.reduceDiv, Int.reduceMod, Int.reduceAdd, Int.reduceSub, Int.reduceMul, Int.reduceNeg, Int.reducePow, Int.reduceEq, ↓reduceIte, Nat.reduceEqDiff, Nat.reduceAdd, Nat.reduceMul, Nat.reduceLeDiff, Nat.reduceSub, Nat.reduceLT, Int.reduceToNat, Int.reduceLT, Int.reduceLE, reduceCtorEq]))
              · have e : rightV p l = 30 := by rw [hR, b3]; simp
                rw [b2] at f1
                rw [b3] at f2
                try simp only [r7_0, r7_1, r7_2, r7_3, r7_4, r7_7, r7_8, r7_9, r7_10, r7_11, r7_12, r7_5, r7_6, r7_13, c7, F7, k1, k2, g0, g1, h1, h2, h3, h4, hlen, ez, b1, f1, f2, e, go_sem, Int.reduceTMod, Int.reduceTDiv, Int.reduceDiv, Int.reduceMod, Int.reduceAdd, Int.reduceSub, Int.reduceMul, Int.reduceNeg, Int.reducePow, Int.reduceEq, ↓reduceIte, Nat.reduceEqDiff, Nat.reduceAdd, Nat.reduceMul, Nat.reduceLeDiff, Nat.reduceSub, Nat.reduceLT, Int.reduceToNat, Int.reduceLT, Int.reduceLE, reduceCtorEq]
                repeat' ((first | refine FK_split (fun h_ => ?_) (fun h_ => ?_) | refine GK_split (fun h_ => ?_) (fun h_ => ?_) | refine ite_both (fun h_ => ?_) (fun h_ => ?_)) <;> (try simp only [decide_eq_true_eq, decide_eq_false_iff_not, Bool.not_true, Bool.not_false, Bool.not_eq_true', Bool.not_eq_false', Bool.not_eq_eq_eq_not, Decidable.not_not] at h_) <;> (try simp only [r7_0, r7_1, r7_2, r7_3, r7_4, r7_7, r7_8, r7_9, r7_10, r7_11, r7_12, r7_5, r7_6, r7_13, c7, F7, k1, k2, g0, g1, h1, h2, h3, h4, hlen, ez, b1, f1, f2, e, h_, go_sem, Int.reduceTMod, Int.reduceTDiv, Int.reduceDiv, Int.reduceMod, Int.reduceAdd, Int.reduceSub, Int.reduceMul, Int.reduceNeg, Int.reducePow, Int.reduceEq, ↓reduceIte, Nat.reduceEqDiff, Nat.reduceAdd, Nat.reduceMul, Nat.reduceLeDiff, Nat.reduceSub, Nat.reduceLT, Int.reduceToNat, Int.reduceLT, Int.reduceLE, reduceCtorEq]))
            · have e : rightV p l = 30 := by rw [hR, b2]; simp
              rw [b2] at f1
              try simp only [r7_0, r7_1, r7_2, r7_3, r7_4, r7_7, r7_8, r7_9, r7_10, r7_11, r7_12, r7_5, r7_6, r7_13, c7, F7, k1, k2, g0, g1, h1, h2, h3, h4, hlen, ez, b1, f1, e, go_sem, Int.reduceTMod, Int.reduceTDiv, Int.reduceDiv, Int.reduceMod, Int.reduceAdd, Int.reduceSub, Int.reduceMul, Int.reduceNeg, Int.reducePow, Int.reduceEq, ↓reduceIte, Nat.reduceEqDiff, Nat.reduceAdd, Nat.reduceMul, Nat.reduceLeDiff, Nat.reduceSub, Nat.reduceLT, Int.reduceToNat, Int.reduceLT, Int.reduceLE, reduceCtorEq]
              repeat' ((first | refine FK_split (fun h_ => ?_) (fun h_ => ?_) | refine GK_split (fun h_ => ?_) (fun h_ => ?_) | refine ite_both (fun h_ => ?_) (fun h_ => ?_)) <;> (try simp only [decide_eq_true_eq, decide_eq_false_iff_not, Bool.not_true, Bool.not_false, Bool.not_eq_true', Bool.not_eq_false', Bool.not_eq_eq_eq_not, Decidable.not_not] at h_) <;> (try simp only [r7_0, r7_1, r7_2, r7_3, r7_4, r7_7, r7_8, r7_9, r7_10, r7_11, r7_12, r7_5, r7_6, r7_13, c7, F7, k1, k2, g0, g1, h1, h2, h3, h4, hlen, ez, b1, f1, e, h_, go_sem, Int.reduceTMod, Int.reduceTDiv, Int.reduceDiv, Int.reduceMod, Int.reduceAdd, Int.reduceSub, Int.reduceMul, Int.reduceNeg, Int.reducePow, Int.reduceEq, ↓reduceIte, Nat.reduceEqDiff, Nat.reduceAdd, Nat.reduceMul, Nat.reduceLeDiff, Nat.reduceSub, Nat.reduceLT, Int.reduceToNat, Int.reduceLT, Int.reduceLE, reduceCtorEq]))
theorem v_PCheck (p : Pai) (l : List Stp) (m : Mem) (n : Nat) (hr : RSt m n (.one p.st) l) (hl : l.length < 4294967296) : callF TA 11 [.agg p.cs] m n = some (RI (rightV p l)) := by
  refine callF_of (Fn_ofK (fn := F11) rfl (by simp [F11]) ?_)
  have hlen := hr.len
  have ez : (0 < (l.length : Int)) = ¬ (l.length = 0) := by apply propext; omega
  have h1 : (p.fx == 0 && p.fy == 0) = p.zf := rfl
  have h2 : (p.tx == 0 && p.ty == 0) = p.zt := rfl
  have h3 : (p.c0 == 0 && (p.c1 == 0 && (p.c2 == 0 && p.c3 == 0))) = p.cz := rfl
  have h4 : (p.fx == p.tx && p.fy == p.ty) = p.ft := rfl
  have h5 := v_CRight p.c0 p.c1 p.c2 p.c3
  rw [show crB p.c0 p.c1 p.c2 p.c3 = p.cr from rfl] at h5
  have f1 := v_nearS p.fx p.fy
  have f2 := v_nearS p.tx p.ty
  by_cases k1 : p.k < 0
  · have e : rightV p l = 33 := by unfold rightV; rw [if_pos (Or.inl k1)]
    have e2 : (p.k = 2) = False := eq_false (by omega)
    have e3 : (p.k = 3) = False := eq_false (by omega)
    try simp only [r11_0, r11_1, r11_2, r11_3, r11_4, r11_5, r11_6, r11_7, r11_8, r11_9, r11_10, r11_11, r11_12, c11, F11, k1, e, e2, e3, go_sem, Int.reduceTMod, Int.reduceTDiv, Int.reduceDiv, Int.reduceMod, Int.reduceAdd, Int.reduceSub, Int.reduceMul, Int.reduceNeg, Int.reducePow, Int.reduceEq, ↓reduceIte, Nat.reduceEqDiff, Nat.reduceAdd, Nat.reduceMul, Nat.reduceLeDiff, Nat.reduceSub, Nat.reduceLT, Int.reduceToNat, Int.reduceLT, Int.reduceLE, reduceCtorEq]
    repeat' ((first | refine FK_split (fun h_ => ?_) (fun h_ => ?_) | refine GK_split (fun h_ => ?_) (fun h_ => ?_) | refine ite_both (fun h_ => ?_) (fun h_ => ?_)) <;> (try simp only [decide_eq_true_eq, decide_eq_false_iff_not, Bool.not_true, Bool.not_false, Bool.not_eq_true', Bool.not_eq_false', Bool.not_eq_eq_eq_not, Decidable.not_not] at h_) <;> (try simp only [r11_0, r11_1, r11_2, r11_3, r11_4, r11_5, r11_6, r11_7, r11_8, r11_9, r11_10, r11_11, r11_12, c11, F11, k1, e, e2, e3, h_, go_sem, Int.reduceTMod, Int.reduceTDiv, Int.reduceDiv, Int.reduceMod, Int.reduceAdd, Int.reduceSub, Int.reduceMul, Int.reduceNeg, Int.reducePow, Int.reduceEq, ↓reduceIte, Nat.reduceEqDiff, Nat.reduceAdd, Nat.reduceMul, Nat.reduceLeDiff, Nat.reduceSub, Nat.reduceLT, Int.reduceToNat, Int.reduceLT, Int.reduceLE, reduceCtorEq]))
  · by_cases k2 : 3 < p.k
    · have e : rightV p l = 33 := by unfold rightV; rw [if_pos (Or.inr k2)]
      have e2 : (p.k = 2) = False := eq_false (by omega)
      have e3 : (p.k = 3) = False := eq_false (by omega)
      try simp only [r11_0, r11_1, r11_2, r11_3, r11_4, r11_5, r11_6, r11_7, r11_8, r11_9, r11_10, r11_11, r11_12, c11, F11, k1, k2, e, e2, e3, go_sem, Int.reduceTMod, Int.reduceTDiv, Int.reduceDiv, Int.reduceMod, Int.reduceAdd, Int.reduceSub, Int.reduceMul, Int.reduceNeg, Int.reducePow, Int.reduceEq, ↓reduceIte, Nat.reduceEqDiff, Nat.reduceAdd, Nat.reduceMul, Nat.reduceLeDiff, Nat.reduceSub, Nat.reduceLT, Int.reduceToNat, Int.reduceLT, Int.reduceLE, reduceCtorEq]
      repeat' ((first | refine FK_split (fun h_ => ?_) (fun h_ => ?_) | refine GK_split (fun h_ => ?_) (fun h_ => ?_) | refine ite_both (fun h_ => ?_) (fun h_ => ?_)) <;> (try simp only [decide_eq_true_eq, decide_eq_false_iff_not, Bool.not_true, Bool.not_false, Bool.not_eq_true', Bool.not_eq_false', Bool.not_eq_eq_eq_not, Decidable.not_not] at h_) <;> (try simp only [r11_0, r11_1, r11_2, r11_3, r11_4, r11_5, r11_6, r11_7, r11_8, r11_9, r11_10, r11_11, r11_12, c11, F11, k1, k2, e, e2, e3, h_, go_sem, Int.reduceTMod, Int.reduceTDiv, Int.reduceDiv, Int.reduceMod, Int.reduceAdd, Int.reduceSub, Int.reduceMul, Int.reduceNeg, Int.reducePow, Int.reduceEq, ↓reduceIte, Nat.reduceEqDiff, Nat.reduceAdd, Nat.reduceMul, Nat.reduceLeDiff, Nat.reduceSub, Nat.reduceLT, Int.reduceToNat, Int.reduceLT, Int.reduceLE, reduceCtorEq]))
    · have hR : rightV p l = if p.k = 0 then (if (p.zf && (p.zt && decide (l.length = 0)) && p.cz) = true then 0 else 30)
          else if p.k = 1 then (if (p.zf && (p.zt && decide (l.length = 0)) && p.cr) = true then 0 else 30)
          else (if (p.cz && (!farB p.fx p.fy && (!farB p.tx p.ty && (!p.ft && stopsB l)))) = true then 0 else 30) := by
        unfold rightV; rw [if_neg (by omega)]
      by_cases g0 : p.k = 0
      · rw [if_pos g0] at hR
        rw [hR]
        cases hc : p.cz
        · skip
          try simp only [r11_0, r11_1, r11_2, r11_3, r11_4, r11_5, r11_6, r11_7, r11_8, r11_9, r11_10, r11_11, r11_12, c11, F11, g0, h1, h2, h3, h4, h5, f1, f2, hlen, ez, hc, go_sem, Int.reduceTMod, Int.reduceTDiv, Int.reduceDiv, Int.reduceMod, Int.reduceAdd, Int.reduceSub, Int.reduceMul, Int.reduceNeg, Int.reducePow, Int.reduceEq, ↓reduceIte, Nat.reduceEqDiff, Nat.reduceAdd, Nat.reduceMul, Nat.reduceLeDiff, Nat.reduceSub, Nat.reduceLT, Int.reduceToNat, Int.reduceLT, Int.reduceLE, reduceCtorEq]
          repeat' ((first | refine FK_split (fun h_ => ?_) (fun h_ => ?_) | refine GK_split (fun h_ => ?_) (fun h_ => ?_) | refine ite_both (fun h_ => ?_) (fun h_ => ?_)) <;> (try simp only [decide_eq_true_eq, decide_eq_false_iff_not, Bool.not_true, Bool.not_false, Bool.not_eq_true', Bool.not_eq_false', Bool.not_eq_eq_eq_not, Decidable.not_not] at h_) <;> (try simp only [r11_0, r11_1, r11_2, r11_3, r11_4, r11_5, r11_6, r11_7, r11_8, r11_9, r11_10, r11_11, r11_12, c11, F11, g0, h1, h2, h3, h4, h5, f1, f2, hlen, ez, hc, h_, go_sem, Int.reduceTMod, Int.reduceTDiv, Int.reduceDiv, Int.reduceMod, Int.reduceAdd, Int.reduceSub, Int.reduceMul, Int.reduceNeg, Int.reducePow, Int.reduceEq, ↓reduceIte, Nat.reduceEqDiff, Nat.reduceAdd, Nat.reduceMul, Nat.reduceLeDiff, Nat.reduceSub, Nat.reduceLT, Int.reduceToNat, Int.reduceLT, Int.reduceLE, reduceCtorEq]))
          all_goals simp [*]
        · rw [cz_cr hc] at h5
          try simp only [r11_0, r11_1, r11_2, r11_3, r11_4, r11_5, r11_6, r11_7, r11_8, r11_9, r11_10, r11_11, r11_12, c11, F11, g0, h1, h2, h3, h4, h5, f1, f2, hlen, ez, hc, go_sem, Int.reduceTMod, Int.reduceTDiv, Int.reduceDiv, Int.reduceMod, Int.reduceAdd, Int.reduceSub, Int.reduceMul, Int.reduceNeg, Int.reducePow, Int.reduceEq, ↓reduceIte, Nat.reduceEqDiff, Nat.reduceAdd, Nat.reduceMul, Nat.reduceLeDiff, Nat.reduceSub, Nat.reduceLT, Int.reduceToNat, Int.reduceLT, Int.reduceLE, reduceCtorEq]
          repeat' ((first | refine FK_split (fun h_ => ?_) (fun h_ => ?_) | refine GK_split (fun h_ => ?_) (fun h_ => ?_) | refine ite_both (fun h_ => ?_) (fun h_ => ?_)) <;> (try simp only [decide_eq_true_eq, decide_eq_false_iff_not, Bool.not_true, Bool.not_false, Bool.not_eq_true', Bool.not_eq_false', Bool.not_eq_eq_eq_not, Decidable.not_not] at h_) <;> (try simp only [r11_0, r11_1, r11_2, r11_3, r11_4, r11_5, r11_6, r11_7, r11_8, r11_9, r11_10, r11_11, r11_12, c11, F11, g0, h1, h2, h3, h4, h5, f1, f2, hlen, ez, hc, h_, go_sem, Int.reduceTMod, Int.reduceTDiv, Int.reduceDiv, Int.reduceMod, Int.reduceAdd, Int.reduceSub, Int.reduceMul, Int.reduceNeg, Int.reducePow, Int.reduceEq, ↓reduceIte, Nat.reduceEqDiff, Nat.reduceAdd, Nat.reduceMul, Nat.reduceLeDiff, Nat.reduceSub, Nat.reduceLT, Int.reduceToNat, Int.reduceLT, Int.reduceLE, reduceCtorEq]))
          all_goals simp [*]
      · rw [if_neg g0] at hR
        by_cases g1 : p.k = 1
        · rw [if_pos g1] at hR
          rw [hR]
          try simp only [r11_0, r11_1, r11_2, r11_3, r11_4, r11_5, r11_6, r11_7, r11_8, r11_9, r11_10, r11_11, r11_12, c11, F11, g1, h1, h2, h3, h4, h5, f1, f2, hlen, ez, go_sem, Int.reduceTMod, Int.reduceTDiv, Int.reduceDiv, Int.reduceMod, Int.reduceAdd, Int.reduceSub, Int.reduceMul, Int.reduceNeg, Int.reducePow, Int.reduceEq, ↓reduceIte, Nat.reduceEqDiff, Nat.reduceAdd, Nat.reduceMul, Nat.reduceLeDiff, Nat.reduceSub, Nat.reduceLT, Int.reduceToNat, Int.reduceLT, Int.reduceLE, reduceCtorEq]
          repeat' ((first | refine FK_split (fun h_ => ?_) (fun h_ => ?_) | refine GK_split (fun h_ => ?_) (fun h_ => ?_) | refine ite_both (fun h_ => ?_) (fun h_ => ?_)) <;> (try simp only [decide_eq_true_eq, decide_eq_false_iff_not, Bool.not_true, Bool.not_false, Bool.not_eq_true', Bool.not_eq_false', Bool.not_eq_eq_eq_not, Decidable.not_not] at h_) <;> (try simp only [r11_0, r11_1, r11_2, r11_3, r11_4, r11_5, r11_6, r11_7, r11_8, r11_9, r11_10, r11_11, r11_12, c11, F11, g1, h1, h2, h3, h4, h5, f1, f2, hlen, ez, h_, go_sem, Int.reduceTMod, Int.reduceTDiv, Int.reduceDiv, Int.reduceMod, Int.reduceAdd, Int.reduceSub, Int.reduceMul, Int.reduceNeg, Int.reducePow, Int.reduceEq, ↓reduceIte, Nat.reduceEqDiff, Nat.reduceAdd, Nat.reduceMul, Nat.reduceLeDiff, Nat.reduceSub, Nat.reduceLT, Int.reduceToNat, Int.reduceLT, Int.reduceLE, reduceCtorEq]))
          all_goals simp [*]
        · rw [if_neg g1] at hR
          have g23 : p.k = 2 ∨ p.k = 3 := by omega
          have vS := v_CheckStops (.one p.st) l
          rw [hR]
          cases hc : p.cz
          · rcases g23 with g2 | g2
            · skip
              try simp only [r11_0, r11_1, r11_2, r11_3, r11_4, r11_5, r11_6, r11_7, r11_8, r11_9, r11_10, r11_11, r11_12, c11, F11, g2, h1, h2, h3, h4, h5, f1, f2, hlen, ez, hc, go_sem, Int.reduceTMod, Int.reduceTDiv, Int.reduceDiv, Int.reduceMod, Int.reduceAdd, Int.reduceSub, Int.reduceMul, Int.reduceNeg, Int.reducePow, Int.reduceEq, ↓reduceIte, Nat.reduceEqDiff, Nat.reduceAdd, Nat.reduceMul, Nat.reduceLeDiff, Nat.reduceSub, Nat.reduceLT, Int.reduceToNat, Int.reduceLT, Int.reduceLE, reduceCtorEq]
              repeat' ((first | refine FK_split (fun h_ => ?_) (fun h_ => ?_) | refine GK_split (fun h_ => ?_) (fun h_ => ?_) | refine ite_both (fun h_ => ?_) (fun h_ => ?_)) <;> (try simp only [decide_eq_true_eq, decide_eq_false_iff_not, Bool.not_true, Bool.not_false, Bool.not_eq_true', Bool.not_eq_false', Bool.not_eq_eq_eq_not, Decidable.not_not] at h_) <;> (try simp only [r11_0, r11_1, r11_2, r11_3, r11_4, r11_5, r11_6, r11_7, r11_8, r11_9, r11_10, r11_11, r11_12, c11, F11, g2, h1, h2, h3, h4, h5, f1, f2, hlen, ez, hc, h_, go_sem, Int.reduceTMod, Int.reduceTDiv, Int.reduceDiv, Int.reduceMod, Int.reduceAdd, Int.reduceSub, Int.reduceMul, Int.reduceNeg, Int.reducePow, Int.reduceEq, ↓reduceIte, Nat.reduceEqDiff, Nat.reduceAdd, Nat.reduceMul, Nat.reduceLeDiff, Nat.reduceSub, Nat.reduceLT, Int.reduceToNat, Int.reduceLT, Int.reduceLE, reduceCtorEq]))
              all_goals simp [*]
            · skip
              try simp only [r11_0, r11_1, r11_2, r11_3, r11_4, r11_5, r11_6, r11_7, r11_8, r11_9, r11_10, r11_11, r11_12, c11, F11, g2, h1, h2, h3, h4, h5, f1, f2, hlen, ez, hc, go_sem, Int.reduceTMod, Int.reduceTDiv, Int.reduceDiv, Int.reduceMod, Int.reduceAdd, Int.reduceSub, Int.reduceMul, Int.reduceNeg, Int.reducePow, Int.reduceEq, ↓reduceIte, Nat.reduceEqDiff, Nat.reduceAdd, Nat.reduceMul, Nat.reduceLeDiff, Nat.reduceSub, Nat.reduceLT, Int.reduceToNat, Int.reduceLT, Int.reduceLE, reduceCtorEq]
              repeat' ((first | refine FK_split (fun h_ => ?_) (fun h_ => ?_) | refine GK_split (fun h_ => ?_) (fun h_ => ?_) | refine ite_both (fun h_ => ?_) (fun h_ => ?_)) <;> (try simp only [decide_eq_true_eq, decide_eq_false_iff_not, Bool.not_true, Bool.not_false, Bool.not_eq_true', Bool.not_eq_false', Bool.not_eq_eq_eq_not, Decidable.not_not] at h_) <;> (try simp only [r11_0, r11_1, r11_2, r11_3, r11_4, r11_5, r11_6, r11_7, r11_8, r11_9, r11_10, r11_11, r11_12, c11, F11, g2, h1, h2, h3, h4, h5, f1, f2, hlen, ez, hc, h_, go_sem, Int.reduceTMod, Int.reduceTDiv, Int.reduceDiv, Int.reduceMod, Int.reduceAdd, Int.reduceSub, Int.reduceMul, Int.reduceNeg, Int.reducePow, Int.reduceEq, ↓reduceIte, Nat.reduceEqDiff, Nat.reduceAdd, Nat.reduceMul, Nat.reduceLeDiff, Nat.reduceSub, Nat.reduceLT, Int.reduceToNat, Int.reduceLT, Int.reduceLE, reduceCtorEq]))
              all_goals simp [*]
          · rw [cz_cr hc] at h5
            have vS : ∀ b, callF TA 32 [.one p.st] (frz (upd m n (some b))) (n + 1) = some (RI (if stopsB l = true then 0 else 30)) := fun b => v_CheckStops _ _ _ _ (RL.frz (hr.keep (by omega) (fun id hid => upd_ne _ _ (by omega)))) hl
            rcases g23 with g2 | g2
            · skip
              try simp only [r11_0, r11_1, r11_2, r11_3, r11_4, r11_5, r11_6, r11_7, r11_8, r11_9, r11_10, r11_11, r11_12, c11, F11, g2, h1, h2, h3, h4, h5, f1, f2, hlen, ez, hc, vS, go_sem, Int.reduceTMod, Int.reduceTDiv, Int.reduceDiv, Int.reduceMod, Int.reduceAdd, Int.reduceSub, Int.reduceMul, Int.reduceNeg, Int.reducePow, Int.reduceEq, ↓reduceIte, Nat.reduceEqDiff, Nat.reduceAdd, Nat.reduceMul, Nat.reduceLeDiff, Nat.reduceSub, Nat.reduceLT, Int.reduceToNat, Int.reduceLT, Int.reduceLE, reduceCtorEq]
              repeat' ((first | refine FK_split (fun h_ => ?_) (fun h_ => ?_) | refine GK_split (fun h_ => ?_) (fun h_ => ?_) | refine ite_both (fun h_ => ?_) (fun h_ => ?_)) <;> (try simp only [decide_eq_true_eq, decide_eq_false_iff_not, Bool.not_true, Bool.not_false, Bool.not_eq_true', Bool.not_eq_false', Bool.not_eq_eq_eq_not, Decidable.not_not] at h_) <;> (try simp only [r11_0, r11_1, r11_2, r11_3, r11_4, r11_5, r11_6, r11_7, r11_8, r11_9, r11_10, r11_11, r11_12, c11, F11, g2, h1, h2, h3, h4, h5, f1, f2, hlen, ez, hc, vS, h_, go_sem, Int.reduceTMod, Int.reduceTDiv, Int.reduceDiv, Int.reduceMod, Int.reduceAdd, Int.reduceSub, Int.reduceMul, Int.reduceNeg, Int.reducePow, Int.reduceEq, ↓reduceIte, Nat.reduceEqDiff, Nat.reduceAdd, Nat.reduceMul, Nat.reduceLeDiff, Nat.reduceSub, Nat.reduceLT, Int.reduceToNat, Int.reduceLT, Int.reduceLE, reduceCtorEq]))
              all_goals simp [*]
            · skip
              try simp only [r11_0, r11_1, r11_2, r11_3, r11_4, r11_5, r11_6, r11_7, r11_8, r11_9, r11_10, r11_11, r11_12, c11, F11, g2, h1, h2, h3, h4, h5, f1, f2, hlen, ez, hc, vS, go_sem, Int.reduceTMod, Int.reduceTDiv, Int.reduceDiv, Int.reduceMod, Int.reduceAdd, Int.reduceSub, Int.reduceMul, Int.reduceNeg, Int.reducePow, Int.reduceEq, ↓reduceIte, Nat.reduceEqDiff, Nat.reduceAdd, Nat.reduceMul, Nat.reduceLeDiff, Nat.reduceSub, Nat.reduceLT, Int.reduceToNat, Int.reduceLT, Int.reduceLE, reduceCtorEq]
              repeat' ((first | refine FK_split (fun h_ => ?_) (fun h_ => ?_) | refine GK_split (fun h_ => ?_) (fun h_ => ?_) | refine ite_both (fun h_ => ?_) (fun h_ => ?_)) <;> (try simp only [decide_eq_true_eq, decide_eq_false_iff_not, Bool.not_true, Bool.not_false, Bool.not_eq_true', Bool.not_eq_false', Bool.not_eq_eq_eq_not, Decidable.not_not] at h_) <;> (try simp only [r11_0, r11_1, r11_2, r11_3, r11_4, r11_5, r11_6, r11_7, r11_8, r11_9, r11_10, r11_11, r11_12, c11, F11, g2, h1, h2, h3, h4, h5, f1, f2, hlen, ez, hc, vS, h_, go_sem, Int.reduceTMod, Int.reduceTDiv, Int.reduceDiv, Int.reduceMod, Int.reduceAdd, Int.reduceSub, Int.reduceMul, Int.reduceNeg, Int.reducePow, Int.reduceEq, ↓reduceIte, Nat.reduceEqDiff, Nat.reduceAdd, Nat.reduceMul, Nat.reduceLeDiff, Nat.reduceSub, Nat.reduceLT, Int.reduceToNat, Int.reduceLT, Int.reduceLE, reduceCtorEq]))
              all_goals simp [*]
/-- Are two paints one? -/
def paiB (p o : Pai) (l k : List Stp) : Bool := decide (p.k = o.k) && ((p.c0 == o.c0 && (p.c1 == o.c1 && (p.c2 == o.c2 && p.c3 == o.c3))) && ((p.fx == o.fx && p.fy == o.fy) && ((p.tx == o.tx && p.ty == o.ty) && decide (l = k))))
theorem v_PEqual (p o : Pai) (l k : List Stp) (m : Mem) (n : Nat) (h1 : RSt m n (.one p.st) l) (h2 : RSt m n (.one o.st) k) (hl : l.length < 4294967296) : callF TA 12 [.agg p.cs, .agg o.cs] m n = some (RB (paiB p o l k)) := by
  refine callF_of (Fn_ofK (fn := F12) rfl (by simp [F12]) ?_)
  have vS : ∀ b b', callF TA 33 [.one p.st, .one o.st] (frz (upd (upd m n (some b)) (n + 1) (some b'))) (n + 2) = some (RB (decide (l = k))) := fun b b' =>
    v_EqS _ _ _ _ _ _ (RL.frz (h1.keep (by omega) (fun id hid => by rw [upd_ne _ _ (by omega), upd_ne _ _ (by omega)]))) (RL.frz (h2.keep (by omega) (fun id hid => by rw [upd_ne _ _ (by omega), upd_ne _ _ (by omega)]))) hl
  unfold paiB
  by_cases a1 : p.k = o.k
  · cases a2 : (p.c0 == o.c0 && (p.c1 == o.c1 && (p.c2 == o.c2 && p.c3 == o.c3)))
    · skip
      try simp only [r12_0, r12_1, c12, F12, a1, a2, go_sem, Int.reduceTMod, Int.reduceTDiv, Int.reduceDiv, Int.reduceMod, Int.reduceAdd, Int.reduceSub, Int.reduceMul, Int.reduceNeg, Int.reducePow, Int.reduceEq, ↓reduceIte, Nat.reduceEqDiff, Nat.reduceAdd, Nat.reduceMul, Nat.reduceLeDiff, Nat.reduceSub, Nat.reduceLT, Int.reduceToNat, Int.reduceLT, Int.reduceLE, reduceCtorEq]
      repeat' ((first | refine FK_split (fun h_ => ?_) (fun h_ => ?_) | refine GK_split (fun h_ => ?_) (fun h_ => ?_) | refine ite_both (fun h_ => ?_) (fun h_ => ?_)) <;> (try simp only [decide_eq_true_eq, decide_eq_false_iff_not, Bool.not_true, Bool.not_false, Bool.not_eq_true', Bool.not_eq_false', Bool.not_eq_eq_eq_not, Decidable.not_not] at h_) <;> (try simp only [r12_0, r12_1, c12, F12, a1, a2, h_, go_sem, Int.reduceTMod, Int.reduceTDiv, Int.reduceDiv, Int.reduceMod, Int.reduceAdd, Int.reduceSub, Int.reduceMul, Int.reduceNeg, Int.reducePow, Int.reduceEq, ↓reduceIte, Nat.reduceEqDiff, Nat.reduceAdd, Nat.reduceMul, Nat.reduceLeDiff, Nat.reduceSub, Nat.reduceLT, Int.reduceToNat, Int.reduceLT, Int.reduceLE, reduceCtorEq]))
    · cases a3 : (p.fx == o.fx && p.fy == o.fy)
      · skip
        try simp only [r12_0, r12_1, c12, F12, a1, a2, a3, go_sem, Int.reduceTMod, Int.reduceTDiv, Int.reduceDiv, Int.reduceMod, Int.reduceAdd, Int.reduceSub, Int.reduceMul, Int.reduceNeg, Int.reducePow, Int.reduceEq, ↓reduceIte, Nat.reduceEqDiff, Nat.reduceAdd, Nat.reduceMul, Nat.reduceLeDiff, Nat.reduceSub, Nat.reduceLT, Int.reduceToNat, Int.reduceLT, Int.reduceLE, reduceCtorEq]
        repeat' ((first | refine FK_split (fun h_ => ?_) (fun h_ => ?_) | refine GK_split (fun h_ => ?_) (fun h_ => ?_) | refine ite_both (fun h_ => ?_) (fun h_ => ?_)) <;> (try simp only [decide_eq_true_eq, decide_eq_false_iff_not, Bool.not_true, Bool.not_false, Bool.not_eq_true', Bool.not_eq_false', Bool.not_eq_eq_eq_not, Decidable.not_not] at h_) <;> (try simp only [r12_0, r12_1, c12, F12, a1, a2, a3, h_, go_sem, Int.reduceTMod, Int.reduceTDiv, Int.reduceDiv, Int.reduceMod, Int.reduceAdd, Int.reduceSub, Int.reduceMul, Int.reduceNeg, Int.reducePow, Int.reduceEq, ↓reduceIte, Nat.reduceEqDiff, Nat.reduceAdd, Nat.reduceMul, Nat.reduceLeDiff, Nat.reduceSub, Nat.reduceLT, Int.reduceToNat, Int.reduceLT, Int.reduceLE, reduceCtorEq]))
      · cases a4 : (p.tx == o.tx && p.ty == o.ty)
        · skip
          try simp only [r12_0, r12_1, c12, F12, a1, a2, a3, a4, go_sem, Int.reduceTMod, Int.reduceTDiv, Int.reduceDiv, Int.reduceMod, Int.reduceAdd, Int.reduceSub, Int.reduceMul, Int.reduceNeg, Int.reducePow, Int.reduceEq, ↓reduceIte, Nat.reduceEqDiff, Nat.reduceAdd, Nat.reduceMul, Nat.reduceLeDiff, Nat.reduceSub, Nat.reduceLT, Int.reduceToNat, Int.reduceLT, Int.reduceLE, reduceCtorEq]
          repeat' ((first | refine FK_split (fun h_ => ?_) (fun h_ => ?_) | refine GK_split (fun h_ => ?_) (fun h_ => ?_) | refine ite_both (fun h_ => ?_) (fun h_ => ?_)) <;> (try simp only [decide_eq_true_eq, decide_eq_false_iff_not, Bool.not_true, Bool.not_false, Bool.not_eq_true', Bool.not_eq_false', Bool.not_eq_eq_eq_not, Decidable.not_not] at h_) <;> (try simp only [r12_0, r12_1, c12, F12, a1, a2, a3, a4, h_, go_sem, Int.reduceTMod, Int.reduceTDiv, Int.reduceDiv, Int.reduceMod, Int.reduceAdd, Int.reduceSub, Int.reduceMul, Int.reduceNeg, Int.reducePow, Int.reduceEq, ↓reduceIte, Nat.reduceEqDiff, Nat.reduceAdd, Nat.reduceMul, Nat.reduceLeDiff, Nat.reduceSub, Nat.reduceLT, Int.reduceToNat, Int.reduceLT, Int.reduceLE, reduceCtorEq]))
        · skip
          try simp only [r12_0, r12_1, c12, F12, a1, a2, a3, a4, vS, go_sem, Int.reduceTMod, Int.reduceTDiv, Int.reduceDiv, Int.reduceMod, Int.reduceAdd, Int.reduceSub, Int.reduceMul, Int.reduceNeg, Int.reducePow, Int.reduceEq, ↓reduceIte, Nat.reduceEqDiff, Nat.reduceAdd, Nat.reduceMul, Nat.reduceLeDiff, Nat.reduceSub, Nat.reduceLT, Int.reduceToNat, Int.reduceLT, Int.reduceLE, reduceCtorEq]
          repeat' ((first | refine FK_split (fun h_ => ?_) (fun h_ => ?_) | refine GK_split (fun h_ => ?_) (fun h_ => ?_) | refine ite_both (fun h_ => ?_) (fun h_ => ?_)) <;> (try simp only [decide_eq_true_eq, decide_eq_false_iff_not, Bool.not_true, Bool.not_false, Bool.not_eq_true', Bool.not_eq_false', Bool.not_eq_eq_eq_not, Decidable.not_not] at h_) <;> (try simp only [r12_0, r12_1, c12, F12, a1, a2, a3, a4, vS, h_, go_sem, Int.reduceTMod, Int.reduceTDiv, Int.reduceDiv, Int.reduceMod, Int.reduceAdd, Int.reduceSub, Int.reduceMul, Int.reduceNeg, Int.reducePow, Int.reduceEq, ↓reduceIte, Nat.reduceEqDiff, Nat.reduceAdd, Nat.reduceMul, Nat.reduceLeDiff, Nat.reduceSub, Nat.reduceLT, Int.reduceToNat, Int.reduceLT, Int.reduceLE, reduceCtorEq]))
  · skip
    try simp only [r12_0, r12_1, c12, F12, a1, go_sem, Int.reduceTMod, Int.reduceTDiv, Int.reduceDiv, Int.reduceMod, Int.reduceAdd, Int.reduceSub, Int.reduceMul, Int.reduceNeg, Int.reducePow, Int.reduceEq, ↓reduceIte, Nat.reduceEqDiff, Nat.reduceAdd, Nat.reduceMul, Nat.reduceLeDiff, Nat.reduceSub, Nat.reduceLT, Int.reduceToNat, Int.reduceLT, Int.reduceLE, reduceCtorEq]
    repeat' ((first | refine FK_split (fun h_ => ?_) (fun h_ => ?_) | refine GK_split (fun h_ => ?_) (fun h_ => ?_) | refine ite_both (fun h_ => ?_) (fun h_ => ?_)) <;> (try simp only [decide_eq_true_eq, decide_eq_false_iff_not, Bool.not_true, Bool.not_false, Bool.not_eq_true', Bool.not_eq_false', Bool.not_eq_eq_eq_not, Decidable.not_not] at h_) <;> (try simp only [r12_0, r12_1, c12, F12, a1, h_, go_sem, Int.reduceTMod, Int.reduceTDiv, Int.reduceDiv, Int.reduceMod, Int.reduceAdd, Int.reduceSub, Int.reduceMul, Int.reduceNeg, Int.reducePow, Int.reduceEq, ↓reduceIte, Nat.reduceEqDiff, Nat.reduceAdd, Nat.reduceMul, Nat.reduceLeDiff, Nat.reduceSub, Nat.reduceLT, Int.reduceToNat, Int.reduceLT, Int.reduceLE, reduceCtorEq]))

/- Styles: compared, checked. Conditions: those that each theorem names. -/
open Go Go.Proofs
set_option linter.unusedSimpArgs false
set_option linter.unusedVariables false

structure Sty where
  fill : Pai
  pen : Pai
  rule : Int
  half : Int
  cap : Int
  dl : Cell
  ph : Int
  op : Int
  mode : Int
abbrev Sty.cs (s : Sty) : List Cell := [I s.fill.k, U8 s.fill.c0, U8 s.fill.c1, U8 s.fill.c2, U8 s.fill.c3, I s.fill.fx, I s.fill.fy, I s.fill.tx, I s.fill.ty, s.fill.st,
  I s.pen.k, U8 s.pen.c0, U8 s.pen.c1, U8 s.pen.c2, U8 s.pen.c3, I s.pen.fx, I s.pen.fy, I s.pen.tx, I s.pen.ty, s.pen.st, I s.rule, I s.half, I s.cap, s.dl, I s.ph, I s.op, I s.mode]
/-- What lies below n is as_ it was. -/
def FrB (n : Nat) (m M : Mem) : Prop := ∀ id, id < n → M id = m id
theorem FrB_refl (n : Nat) (m : Mem) : FrB n m m = True := eq_true fun _ _ => rfl
theorem FrB_upd (n k : Nat) (m M : Mem) (b : Option Blk) : FrB n m (upd M (n + k) b) = FrB n m M := by
  apply propext
  constructor
  · intro h id hid
    have := h id hid
    rwa [upd_ne _ _ (by omega)] at this
  · intro h id hid
    rw [upd_ne _ _ (by omega)]
    exact h id hid
theorem FrB_upd0 (n : Nat) (m M : Mem) (b : Option Blk) : FrB n m (upd M n b) = FrB n m M := FrB_upd n 0 m M b
theorem rl_fr {α : Type} {enc : α → List Cell} {sz n N : Nat} {m M : Mem} {r : Reg} {l : List α} (h : RL enc sz m n r l) (hM : FrB n m M) (hN : n ≤ N) : RL enc sz (frz M) N r l := (h.keep hN hM).frz
structure SRel (m : Mem) (n : Nat) (s : Sty) (lf lp : List Stp) (ld : List Int) : Prop where
  f : RSt m n (.one s.fill.st) lf
  p : RSt m n (.one s.pen.st) lp
  d : RIn m n (.one s.dl) ld
theorem SRel.keep {m m' : Mem} {n n' : Nat} {s : Sty} {lf lp : List Stp} {ld : List Int} (h : SRel m n s lf lp ld) (hn : n ≤ n') (hm : ∀ id, id < n → m' id = m id) : SRel m' n' s lf lp ld := ⟨h.f.keep hn hm, h.p.keep hn hm, h.d.keep hn hm⟩
theorem SRel.frz {m : Mem} {n : Nat} {s : Sty} {lf lp : List Stp} {ld : List Int} (h : SRel m n s lf lp ld) : SRel (frz m) n s lf lp ld := ⟨RL.frz h.f, RL.frz h.p, RL.frz h.d⟩
def styB (s o : Sty) (lf lf' lp lp' : List Stp) (ld ld' : List Int) : Bool := paiB s.fill o.fill lf lf' && (paiB s.pen o.pen lp lp' && (decide (s.rule = o.rule) && (decide (s.half = o.half) && (decide (s.cap = o.cap) && (decide (ld = ld') && (decide (s.ph = o.ph) && (decide (s.op = o.op) && decide (s.mode = o.mode))))))))
theorem v_SEqual (s o : Sty) (lf lf' lp lp' : List Stp) (ld ld' : List Int) (m : Mem) (n : Nat) (h1 : SRel m n s lf lp ld) (h2 : SRel m n o lf' lp' ld') (l1 : lf.length < 4294967296) (l2 : lp.length < 4294967296) (l3 : ld.length < 4294967296) :
    callF TA 21 [.agg s.cs, .agg o.cs] m n = some (RB (styB s o lf lf' lp lp' ld ld')) := by
  refine callF_of (Fn_ofK (fn := F21) rfl (by simp [F21]) ?_)
  have v1 := fun M N (hM : FrB n m M) (hN : n ≤ N) => v_PEqual s.fill o.fill lf lf' (frz M) N (rl_fr h1.f hM hN) (rl_fr h2.f hM hN) l1
  have v2 := fun M N (hM : FrB n m M) (hN : n ≤ N) => v_PEqual s.pen o.pen lp lp' (frz M) N (rl_fr h1.p hM hN) (rl_fr h2.p hM hN) l2
  have v3 := fun M N (hM : FrB n m M) (hN : n ≤ N) => v_EqI (.one s.dl) (.one o.dl) ld ld' (frz M) N (rl_fr h1.d hM hN) (rl_fr h2.d hM hN) l3
  unfold styB
  cases a1 : paiB s.fill o.fill lf lf' <;> rw [a1] at v1
  · skip
    try simp only [r21_0, r21_1, c21, F21, v1, FrB_refl, FrB_upd, FrB_upd0, Nat.le_add_right, go_sem, Int.reduceTMod, Int.reduceTDiv, Int.reduceDiv, Int.reduceMod, Int.reduceAdd, Int.reduceSub, Int.reduceMul, Int.reduceNeg, Int.reducePow, Int.reduceEq, ↓reduceIte, Nat.reduceEqDiff, Nat.reduceAdd, Nat.reduceMul, Nat.reduceLeDiff, Nat.reduceSub, Nat.reduceLT, Int.reduceToNat, Int.reduceLT, Int.reduceLE, reduceCtorEq]
    repeat' ((first | refine FK_split (fun h_ => ?_) (fun h_ => ?_) | refine GK_split (fun h_ => ?_) (fun h_ => ?_) | refine ite_both (fun h_ => ?_) (fun h_ => ?_)) <;> (try simp only [decide_eq_true_eq, decide_eq_false_iff_not, Bool.not_true, Bool.not_false, Bool.not_eq_true', Bool.not_eq_false', Bool.not_eq_eq_eq_not, Decidable.not_not] at h_) <;> (try simp only [r21_0, r21_1, c21, F21, v1, FrB_refl, FrB_upd, FrB_upd0, Nat.le_add_right, h_, go_sem, Int.reduceTMod, Int.reduceTDiv, Int.reduceDiv, Int.reduceMod, Int.reduceAdd, Int.reduceSub, Int.reduceMul, Int.reduceNeg, Int.reducePow, Int.reduceEq, ↓reduceIte, Nat.reduceEqDiff, Nat.reduceAdd, Nat.reduceMul, Nat.reduceLeDiff, Nat.reduceSub, Nat.reduceLT, Int.reduceToNat, Int.reduceLT, Int.reduceLE, reduceCtorEq]))
  · cases a2 : paiB s.pen o.pen lp lp' <;> rw [a2] at v2
    · skip
      try simp only [r21_0, r21_1, c21, F21, v1, v2, FrB_refl, FrB_upd, FrB_upd0, Nat.le_add_right, go_sem, Int.reduceTMod, Int.reduceTDiv, Int.reduceDiv, Int.reduceMod, Int.reduceAdd, Int.reduceSub, Int.reduceMul, Int.reduceNeg, Int.reducePow, Int.reduceEq, ↓reduceIte, Nat.reduceEqDiff, Nat.reduceAdd, Nat.reduceMul, Nat.reduceLeDiff, Nat.reduceSub, Nat.reduceLT, Int.reduceToNat, Int.reduceLT, Int.reduceLE, reduceCtorEq]
      repeat' ((first | refine FK_split (fun h_ => ?_) (fun h_ => ?_) | refine GK_split (fun h_ => ?_) (fun h_ => ?_) | refine ite_both (fun h_ => ?_) (fun h_ => ?_)) <;> (try simp only [decide_eq_true_eq, decide_eq_false_iff_not, Bool.not_true, Bool.not_false, Bool.not_eq_true', Bool.not_eq_false', Bool.not_eq_eq_eq_not, Decidable.not_not] at h_) <;> (try simp only [r21_0, r21_1, c21, F21, v1, v2, FrB_refl, FrB_upd, FrB_upd0, Nat.le_add_right, h_, go_sem, Int.reduceTMod, Int.reduceTDiv, Int.reduceDiv, Int.reduceMod, Int.reduceAdd, Int.reduceSub, Int.reduceMul, Int.reduceNeg, Int.reducePow, Int.reduceEq, ↓reduceIte, Nat.reduceEqDiff, Nat.reduceAdd, Nat.reduceMul, Nat.reduceLeDiff, Nat.reduceSub, Nat.reduceLT, Int.reduceToNat, Int.reduceLT, Int.reduceLE, reduceCtorEq]))
    · by_cases a3 : s.rule = o.rule
      · by_cases a4 : s.half = o.half
        · by_cases a5 : s.cap = o.cap
          · cases a6 : decide (ld = ld') <;> rw [a6] at v3
            · skip
              try simp only [r21_0, r21_1, c21, F21, v1, v2, v3, a3, a4, a5, FrB_refl, FrB_upd, FrB_upd0, Nat.le_add_right, go_sem, Int.reduceTMod, Int.reduceTDiv, Int.reduceDiv, Int.reduceMod, Int.reduceAdd, Int.reduceSub, Int.reduceMul, Int.reduceNeg, Int.reducePow, Int.reduceEq, ↓reduceIte, Nat.reduceEqDiff, Nat.reduceAdd, Nat.reduceMul, Nat.reduceLeDiff, Nat.reduceSub, Nat.reduceLT, Int.reduceToNat, Int.reduceLT, Int.reduceLE, reduceCtorEq]
              repeat' ((first | refine FK_split (fun h_ => ?_) (fun h_ => ?_) | refine GK_split (fun h_ => ?_) (fun h_ => ?_) | refine ite_both (fun h_ => ?_) (fun h_ => ?_)) <;> (try simp only [decide_eq_true_eq, decide_eq_false_iff_not, Bool.not_true, Bool.not_false, Bool.not_eq_true', Bool.not_eq_false', Bool.not_eq_eq_eq_not, Decidable.not_not] at h_) <;> (try simp only [r21_0, r21_1, c21, F21, v1, v2, v3, a3, a4, a5, FrB_refl, FrB_upd, FrB_upd0, Nat.le_add_right, h_, go_sem, Int.reduceTMod, Int.reduceTDiv, Int.reduceDiv, Int.reduceMod, Int.reduceAdd, Int.reduceSub, Int.reduceMul, Int.reduceNeg, Int.reducePow, Int.reduceEq, ↓reduceIte, Nat.reduceEqDiff, Nat.reduceAdd, Nat.reduceMul, Nat.reduceLeDiff, Nat.reduceSub, Nat.reduceLT, Int.reduceToNat, Int.reduceLT, Int.reduceLE, reduceCtorEq]))
            · by_cases a7 : s.ph = o.ph
              · by_cases a8 : s.op = o.op
                · skip
                  try simp only [r21_0, r21_1, c21, F21, v1, v2, v3, a3, a4, a5, a7, a8, FrB_refl, FrB_upd, FrB_upd0, Nat.le_add_right, go_sem, Int.reduceTMod, Int.reduceTDiv, Int.reduceDiv, Int.reduceMod, Int.reduceAdd, Int.reduceSub, Int.reduceMul, Int.reduceNeg, Int.reducePow, Int.reduceEq, ↓reduceIte, Nat.reduceEqDiff, Nat.reduceAdd, Nat.reduceMul, Nat.reduceLeDiff, Nat.reduceSub, Nat.reduceLT, Int.reduceToNat, Int.reduceLT, Int.reduceLE, reduceCtorEq]
                  repeat' ((first | refine FK_split (fun h_ => ?_) (fun h_ => ?_) | refine GK_split (fun h_ => ?_) (fun h_ => ?_) | refine ite_both (fun h_ => ?_) (fun h_ => ?_)) <;> (try simp only [decide_eq_true_eq, decide_eq_false_iff_not, Bool.not_true, Bool.not_false, Bool.not_eq_true', Bool.not_eq_false', Bool.not_eq_eq_eq_not, Decidable.not_not] at h_) <;> (try simp only [r21_0, r21_1, c21, F21, v1, v2, v3, a3, a4, a5, a7, a8, FrB_refl, FrB_upd, FrB_upd0, Nat.le_add_right, h_, go_sem, Int.reduceTMod, Int.reduceTDiv, Int.reduceDiv, Int.reduceMod, Int.reduceAdd, Int.reduceSub, Int.reduceMul, Int.reduceNeg, Int.reducePow, Int.reduceEq, ↓reduceIte, Nat.reduceEqDiff, Nat.reduceAdd, Nat.reduceMul, Nat.reduceLeDiff, Nat.reduceSub, Nat.reduceLT, Int.reduceToNat, Int.reduceLT, Int.reduceLE, reduceCtorEq]))
                · skip
                  try simp only [r21_0, r21_1, c21, F21, v1, v2, v3, a3, a4, a5, a7, a8, FrB_refl, FrB_upd, FrB_upd0, Nat.le_add_right, go_sem, Int.reduceTMod, Int.reduceTDiv, Int.reduceDiv, Int.reduceMod, Int.reduceAdd, Int.reduceSub, Int.reduceMul, Int.reduceNeg, Int.reducePow, Int.reduceEq, ↓reduceIte, Nat.reduceEqDiff, Nat.reduceAdd, Nat.reduceMul, Nat.reduceLeDiff, Nat.reduceSub, Nat.reduceLT, Int.reduceToNat, Int.reduceLT, Int.reduceLE, reduceCtorEq]
                  repeat' ((first | refine FK_split (fun h_ => ?_) (fun h_ => ?_) | refine GK_split (fun h_ => ?_) (fun h_ => ?_) | refine ite_both (fun h_ => ?_) (fun h_ => ?_)) <;> (try simp only [decide_eq_true_eq, decide_eq_false_iff_not, Bool.not_true, Bool.not_false, Bool.not_eq_true', Bool.not_eq_false', Bool.not_eq_eq_eq_not, Decidable.not_not] at h_) <;> (try simp only [r21_0, r21_1, c21, F21, v1, v2, v3, a3, a4, a5, a7, a8, FrB_refl, FrB_upd, FrB_upd0, Nat.le_add_right, h_, go_sem, Int.reduceTMod, Int.reduceTDiv, Int.reduceDiv, Int.reduceMod, Int.reduceAdd, Int.reduceSub, Int.reduceMul, Int.reduceNeg, Int.reducePow, Int.reduceEq, ↓reduceIte, Nat.reduceEqDiff, Nat.reduceAdd, Nat.reduceMul, Nat.reduceLeDiff, Nat.reduceSub, Nat.reduceLT, Int.reduceToNat, Int.reduceLT, Int.reduceLE, reduceCtorEq]))
              · skip
                try simp only [r21_0, r21_1, c21, F21, v1, v2, v3, a3, a4, a5, a7, FrB_refl, FrB_upd, FrB_upd0, Nat.le_add_right, go_sem, Int.reduceTMod, Int.reduceTDiv, Int.reduceDiv, Int.reduceMod, Int.reduceAdd, Int.reduceSub, Int.reduceMul, Int.reduceNeg, Int.reducePow, Int.reduceEq, ↓reduceIte, Nat.reduceEqDiff, Nat.reduceAdd, Nat.reduceMul, Nat.reduceLeDiff, Nat.reduceSub, Nat.reduceLT, Int.reduceToNat, Int.reduceLT, Int.reduceLE, reduceCtorEq]
                repeat' ((first | refine FK_split (fun h_ => ?_) (fun h_ => ?_) | refine GK_split (fun h_ => ?_) (fun h_ => ?_) | refine ite_both (fun h_ => ?_) (fun h_ => ?_)) <;> (try simp only [decide_eq_true_eq, decide_eq_false_iff_not, Bool.not_true, Bool.not_false, Bool.not_eq_true', Bool.not_eq_false', Bool.not_eq_eq_eq_not, Decidable.not_not] at h_) <;> (try simp only [r21_0, r21_1, c21, F21, v1, v2, v3, a3, a4, a5, a7, FrB_refl, FrB_upd, FrB_upd0, Nat.le_add_right, h_, go_sem, Int.reduceTMod, Int.reduceTDiv, Int.reduceDiv, Int.reduceMod, Int.reduceAdd, Int.reduceSub, Int.reduceMul, Int.reduceNeg, Int.reducePow, Int.reduceEq, ↓reduceIte, Nat.reduceEqDiff, Nat.reduceAdd, Nat.reduceMul, Nat.reduceLeDiff, Nat.reduceSub, Nat.reduceLT, Int.reduceToNat, Int.reduceLT, Int.reduceLE, reduceCtorEq]))
          · skip
            try simp only [r21_0, r21_1, c21, F21, v1, v2, a3, a4, a5, FrB_refl, FrB_upd, FrB_upd0, Nat.le_add_right, go_sem, Int.reduceTMod, Int.reduceTDiv, Int.reduceDiv, Int.reduceMod, Int.reduceAdd, Int.reduceSub, Int.reduceMul, Int.reduceNeg, Int.reducePow, Int.reduceEq, ↓reduceIte, Nat.reduceEqDiff, Nat.reduceAdd, Nat.reduceMul, Nat.reduceLeDiff, Nat.reduceSub, Nat.reduceLT, Int.reduceToNat, Int.reduceLT, Int.reduceLE, reduceCtorEq]
            repeat' ((first | refine FK_split (fun h_ => ?_) (fun h_ => ?_) | refine GK_split (fun h_ => ?_) (fun h_ => ?_) | refine ite_both (fun h_ => ?_) (fun h_ => ?_)) <;> (try simp only [decide_eq_true_eq, decide_eq_false_iff_not, Bool.not_true, Bool.not_false, Bool.not_eq_true', Bool.not_eq_false', Bool.not_eq_eq_eq_not, Decidable.not_not] at h_) <;> (try simp only [r21_0, r21_1, c21, F21, v1, v2, a3, a4, a5, FrB_refl, FrB_upd, FrB_upd0, Nat.le_add_right, h_, go_sem, Int.reduceTMod, Int.reduceTDiv, Int.reduceDiv, Int.reduceMod, Int.reduceAdd, Int.reduceSub, Int.reduceMul, Int.reduceNeg, Int.reducePow, Int.reduceEq, ↓reduceIte, Nat.reduceEqDiff, Nat.reduceAdd, Nat.reduceMul, Nat.reduceLeDiff, Nat.reduceSub, Nat.reduceLT, Int.reduceToNat, Int.reduceLT, Int.reduceLE, reduceCtorEq]))
        · skip
          try simp only [r21_0, r21_1, c21, F21, v1, v2, a3, a4, FrB_refl, FrB_upd, FrB_upd0, Nat.le_add_right, go_sem, Int.reduceTMod, Int.reduceTDiv, Int.reduceDiv, Int.reduceMod, Int.reduceAdd, Int.reduceSub, Int.reduceMul, Int.reduceNeg, Int.reducePow, Int.reduceEq, ↓reduceIte, Nat.reduceEqDiff, Nat.reduceAdd, Nat.reduceMul, Nat.reduceLeDiff, Nat.reduceSub, Nat.reduceLT, Int.reduceToNat, Int.reduceLT, Int.reduceLE, reduceCtorEq]
          repeat' ((first | refine FK_split (fun h_ => ?_) (fun h_ => ?_) | refine GK_split (fun h_ => ?_) (fun h_ => ?_) | refine ite_both (fun h_ => ?_) (fun h_ => ?_)) <;> (try simp only [decide_eq_true_eq, decide_eq_false_iff_not, Bool.not_true, Bool.not_false, Bool.not_eq_true', Bool.not_eq_false', Bool.not_eq_eq_eq_not, Decidable.not_not] at h_) <;> (try simp only [r21_0, r21_1, c21, F21, v1, v2, a3, a4, FrB_refl, FrB_upd, FrB_upd0, Nat.le_add_right, h_, go_sem, Int.reduceTMod, Int.reduceTDiv, Int.reduceDiv, Int.reduceMod, Int.reduceAdd, Int.reduceSub, Int.reduceMul, Int.reduceNeg, Int.reducePow, Int.reduceEq, ↓reduceIte, Nat.reduceEqDiff, Nat.reduceAdd, Nat.reduceMul, Nat.reduceLeDiff, Nat.reduceSub, Nat.reduceLT, Int.reduceToNat, Int.reduceLT, Int.reduceLE, reduceCtorEq]))
      · skip
        try simp only [r21_0, r21_1, c21, F21, v1, v2, a3, FrB_refl, FrB_upd, FrB_upd0, Nat.le_add_right, go_sem, Int.reduceTMod, Int.reduceTDiv, Int.reduceDiv, Int.reduceMod, Int.reduceAdd, Int.reduceSub, Int.reduceMul, Int.reduceNeg, Int.reducePow, Int.reduceEq, ↓reduceIte, Nat.reduceEqDiff, Nat.reduceAdd, Nat.reduceMul, Nat.reduceLeDiff, Nat.reduceSub, Nat.reduceLT, Int.reduceToNat, Int.reduceLT, Int.reduceLE, reduceCtorEq]
        repeat' ((first | refine FK_split (fun h_ => ?_) (fun h_ => ?_) | refine GK_split (fun h_ => ?_) (fun h_ => ?_) | refine ite_both (fun h_ => ?_) (fun h_ => ?_)) <;> (try simp only [decide_eq_true_eq, decide_eq_false_iff_not, Bool.not_true, Bool.not_false, Bool.not_eq_true', Bool.not_eq_false', Bool.not_eq_eq_eq_not, Decidable.not_not] at h_) <;> (try simp only [r21_0, r21_1, c21, F21, v1, v2, a3, FrB_refl, FrB_upd, FrB_upd0, Nat.le_add_right, h_, go_sem, Int.reduceTMod, Int.reduceTDiv, Int.reduceDiv, Int.reduceMod, Int.reduceAdd, Int.reduceSub, Int.reduceMul, Int.reduceNeg, Int.reducePow, Int.reduceEq, ↓reduceIte, Nat.reduceEqDiff, Nat.reduceAdd, Nat.reduceMul, Nat.reduceLeDiff, Nat.reduceSub, Nat.reduceLT, Int.reduceToNat, Int.reduceLT, Int.reduceLE, reduceCtorEq]))
/-- The error's number of a style. -/
def rngP (s : Sty) : Prop := (1 ≤ s.rule ∧ s.rule ≤ 2) ∧ (0 ≤ s.half ∧ s.half ≤ 32768) ∧ (0 ≤ s.cap ∧ s.cap ≤ 2) ∧ (0 ≤ s.op ∧ s.op ≤ 255) ∧ 0 ≤ s.mode ∧ s.mode ≤ 4
instance (s : Sty) : Decidable (rngP s) := by unfold rngP; infer_instance
def styV (s : Sty) (lf lp : List Stp) (ld : List Int) : Int :=
  if rightV s.fill lf ≠ 0 then rightV s.fill lf else if rightV s.pen lp ≠ 0 then rightV s.pen lp else if rngP s then (if rightB ld s.ph = true then 0 else 30) else 30
theorem v_SCheck (s : Sty) (lf lp : List Stp) (ld : List Int) (m : Mem) (n : Nat) (h1 : SRel m n s lf lp ld) (l1 : lf.length < 4294967296) (l2 : lp.length < 4294967296) (l3 : ld.length < 4294967296) :
    callF TA 24 [.agg s.cs] m n = some (RI (styV s lf lp ld)) := by
  refine callF_of (Fn_ofK (fn := F24) rfl (by simp [F24]) ?_)
  have v1 := fun M N (hM : FrB n m M) (hN : n ≤ N) => v_PCheck s.fill lf (frz M) N (rl_fr h1.f hM hN) l1
  have v2 := fun M N (hM : FrB n m M) (hN : n ≤ N) => v_PCheck s.pen lp (frz M) N (rl_fr h1.p hM hN) l2
  have v3 := fun M N (hM : FrB n m M) (hN : n ≤ N) => v_Check s.dl ld s.ph (frz M) N (rl_fr h1.d hM hN) l3
  unfold styV
  by_cases a1 : rightV s.fill lf = 0
  · rw [if_neg (fun h => h a1)]
    rw [a1] at v1
    by_cases a2 : rightV s.pen lp = 0
    · rw [if_neg (fun h => h a2)]
      rw [a2] at v2
      have r15 : List.replicate 15 (I 0) = [I 0, I 0, I 0, I 0, I 0, I 0, I 0, I 0, I 0, I 0, I 0, I 0, I 0, I 0, I 0] := rfl
      by_cases hg : rngP s
      · rw [if_pos hg]
        obtain ⟨⟨b1, b2⟩, ⟨b3, b4⟩, ⟨b5, b6⟩, ⟨b7, b8⟩, b9, b10⟩ := hg
        have c1 : (s.rule < 1) = False := eq_false (by omega)
        have c2 : (2 < s.rule) = False := eq_false (by omega)
        have c3 : (s.half < 0) = False := eq_false (by omega)
        have c4 : (32768 < s.half) = False := eq_false (by omega)
        have c5 : (s.cap < 0) = False := eq_false (by omega)
        have c6 : (2 < s.cap) = False := eq_false (by omega)
        have c7 : (s.op < 0) = False := eq_false (by omega)
        have c8 : (255 < s.op) = False := eq_false (by omega)
        have c9 : (s.mode < 0) = False := eq_false (by omega)
        have c10 : (4 < s.mode) = False := eq_false (by omega)
        try simp only [r24_0, r24_1, r24_2, r24_3, r24_4, r24_5, r24_6, r24_7, r24_8, r24_9, r24_10, r24_11, r24_12, r24_13, r24_14, c24, F24, l24_0, l24_1, XK_loop, r15, v1, v2, v3, c1, c2, c3, c4, c5, c6, c7, c8, c9, c10, FrB_refl, FrB_upd, FrB_upd0, Nat.le_add_right, go_sem, Int.reduceTMod, Int.reduceTDiv, Int.reduceDiv, Int.reduceMod, Int.reduceAdd, Int.reduceSub, Int.reduceMul, Int.reduceNeg, Int.reducePow, Int.reduceEq, ↓reduceIte, Nat.reduceEqDiff, Nat.reduceAdd, Nat.reduceMul, Nat.reduceLeDiff, Nat.reduceSub, Nat.reduceLT, Int.reduceToNat, Int.reduceLT, Int.reduceLE, reduceCtorEq]
        repeat' ((first | refine FK_split (fun h_ => ?_) (fun h_ => ?_) | refine GK_split (fun h_ => ?_) (fun h_ => ?_) | refine ite_both (fun h_ => ?_) (fun h_ => ?_)) <;> (try simp only [decide_eq_true_eq, decide_eq_false_iff_not, Bool.not_true, Bool.not_false, Bool.not_eq_true', Bool.not_eq_false', Bool.not_eq_eq_eq_not, Decidable.not_not] at h_) <;> (try simp only [r24_0, r24_1, r24_2, r24_3, r24_4, r24_5, r24_6, r24_7, r24_8, r24_9, r24_10, r24_11, r24_12, r24_13, r24_14, c24, F24, l24_0, l24_1, XK_loop, r15, v1, v2, v3, c1, c2, c3, c4, c5, c6, c7, c8, c9, c10, FrB_refl, FrB_upd, FrB_upd0, Nat.le_add_right, h_, go_sem, Int.reduceTMod, Int.reduceTDiv, Int.reduceDiv, Int.reduceMod, Int.reduceAdd, Int.reduceSub, Int.reduceMul, Int.reduceNeg, Int.reducePow, Int.reduceEq, ↓reduceIte, Nat.reduceEqDiff, Nat.reduceAdd, Nat.reduceMul, Nat.reduceLeDiff, Nat.reduceSub, Nat.reduceLT, Int.reduceToNat, Int.reduceLT, Int.reduceLE, reduceCtorEq]))
      · rw [if_neg hg]
        try simp only [r24_0, r24_1, r24_2, r24_3, r24_4, r24_5, r24_6, r24_7, r24_8, r24_9, r24_10, r24_11, r24_12, r24_13, r24_14, c24, F24, l24_0, l24_1, XK_loop, r15, v1, v2, v3, FrB_refl, FrB_upd, FrB_upd0, Nat.le_add_right, go_sem, Int.reduceTMod, Int.reduceTDiv, Int.reduceDiv, Int.reduceMod, Int.reduceAdd, Int.reduceSub, Int.reduceMul, Int.reduceNeg, Int.reducePow, Int.reduceEq, ↓reduceIte, Nat.reduceEqDiff, Nat.reduceAdd, Nat.reduceMul, Nat.reduceLeDiff, Nat.reduceSub, Nat.reduceLT, Int.reduceToNat, Int.reduceLT, Int.reduceLE, reduceCtorEq]
        repeat' ((first | refine FK_split (fun h_ => ?_) (fun h_ => ?_) | refine GK_split (fun h_ => ?_) (fun h_ => ?_) | refine ite_both (fun h_ => ?_) (fun h_ => ?_)) <;> (try simp only [decide_eq_true_eq, decide_eq_false_iff_not, Bool.not_true, Bool.not_false, Bool.not_eq_true', Bool.not_eq_false', Bool.not_eq_eq_eq_not, Decidable.not_not] at h_) <;> (try simp only [r24_0, r24_1, r24_2, r24_3, r24_4, r24_5, r24_6, r24_7, r24_8, r24_9, r24_10, r24_11, r24_12, r24_13, r24_14, c24, F24, l24_0, l24_1, XK_loop, r15, v1, v2, v3, FrB_refl, FrB_upd, FrB_upd0, Nat.le_add_right, h_, go_sem, Int.reduceTMod, Int.reduceTDiv, Int.reduceDiv, Int.reduceMod, Int.reduceAdd, Int.reduceSub, Int.reduceMul, Int.reduceNeg, Int.reducePow, Int.reduceEq, ↓reduceIte, Nat.reduceEqDiff, Nat.reduceAdd, Nat.reduceMul, Nat.reduceLeDiff, Nat.reduceSub, Nat.reduceLT, Int.reduceToNat, Int.reduceLT, Int.reduceLE, reduceCtorEq]))
        all_goals exact absurd (by unfold rngP; omega) hg
    · rw [if_pos a2]
      try simp only [r24_0, r24_1, r24_2, r24_3, r24_4, r24_5, r24_6, r24_7, r24_8, r24_9, r24_10, r24_11, r24_12, r24_13, r24_14, c24, F24, l24_0, l24_1, XK_loop, v1, v2, a2, FrB_refl, FrB_upd, FrB_upd0, Nat.le_add_right, go_sem, Int.reduceTMod, Int.reduceTDiv, Int.reduceDiv, Int.reduceMod, Int.reduceAdd, Int.reduceSub, Int.reduceMul, Int.reduceNeg, Int.reducePow, Int.reduceEq, ↓reduceIte, Nat.reduceEqDiff, Nat.reduceAdd, Nat.reduceMul, Nat.reduceLeDiff, Nat.reduceSub, Nat.reduceLT, Int.reduceToNat, Int.reduceLT, Int.reduceLE, reduceCtorEq]
      repeat' ((first | refine FK_split (fun h_ => ?_) (fun h_ => ?_) | refine GK_split (fun h_ => ?_) (fun h_ => ?_) | refine ite_both (fun h_ => ?_) (fun h_ => ?_)) <;> (try simp only [decide_eq_true_eq, decide_eq_false_iff_not, Bool.not_true, Bool.not_false, Bool.not_eq_true', Bool.not_eq_false', Bool.not_eq_eq_eq_not, Decidable.not_not] at h_) <;> (try simp only [r24_0, r24_1, r24_2, r24_3, r24_4, r24_5, r24_6, r24_7, r24_8, r24_9, r24_10, r24_11, r24_12, r24_13, r24_14, c24, F24, l24_0, l24_1, XK_loop, v1, v2, a2, FrB_refl, FrB_upd, FrB_upd0, Nat.le_add_right, h_, go_sem, Int.reduceTMod, Int.reduceTDiv, Int.reduceDiv, Int.reduceMod, Int.reduceAdd, Int.reduceSub, Int.reduceMul, Int.reduceNeg, Int.reducePow, Int.reduceEq, ↓reduceIte, Nat.reduceEqDiff, Nat.reduceAdd, Nat.reduceMul, Nat.reduceLeDiff, Nat.reduceSub, Nat.reduceLT, Int.reduceToNat, Int.reduceLT, Int.reduceLE, reduceCtorEq]))
  · rw [if_pos a1]
    try simp only [r24_0, r24_1, r24_2, r24_3, r24_4, r24_5, r24_6, r24_7, r24_8, r24_9, r24_10, r24_11, r24_12, r24_13, r24_14, c24, F24, l24_0, l24_1, XK_loop, v1, a1, FrB_refl, FrB_upd, FrB_upd0, Nat.le_add_right, go_sem, Int.reduceTMod, Int.reduceTDiv, Int.reduceDiv, Int.reduceMod, Int.reduceAdd, Int.reduceSub, Int.reduceMul, Int.reduceNeg, Int.reducePow, Int.reduceEq, ↓reduceIte, Nat.reduceEqDiff, Nat.reduceAdd, Nat.reduceMul, Nat.reduceLeDiff, Nat.reduceSub, Nat.reduceLT, Int.reduceToNat, Int.reduceLT, Int.reduceLE, reduceCtorEq]
    repeat' ((first | refine FK_split (fun h_ => ?_) (fun h_ => ?_) | refine GK_split (fun h_ => ?_) (fun h_ => ?_) | refine ite_both (fun h_ => ?_) (fun h_ => ?_)) <;> (try simp only [decide_eq_true_eq, decide_eq_false_iff_not, Bool.not_true, Bool.not_false, Bool.not_eq_true', Bool.not_eq_false', Bool.not_eq_eq_eq_not, Decidable.not_not] at h_) <;> (try simp only [r24_0, r24_1, r24_2, r24_3, r24_4, r24_5, r24_6, r24_7, r24_8, r24_9, r24_10, r24_11, r24_12, r24_13, r24_14, c24, F24, l24_0, l24_1, XK_loop, v1, a1, FrB_refl, FrB_upd, FrB_upd0, Nat.le_add_right, h_, go_sem, Int.reduceTMod, Int.reduceTDiv, Int.reduceDiv, Int.reduceMod, Int.reduceAdd, Int.reduceSub, Int.reduceMul, Int.reduceNeg, Int.reducePow, Int.reduceEq, ↓reduceIte, Nat.reduceEqDiff, Nat.reduceAdd, Nat.reduceMul, Nat.reduceLeDiff, Nat.reduceSub, Nat.reduceLT, Int.reduceToNat, Int.reduceLT, Int.reduceLE, reduceCtorEq]))

/- The law StyleChecks walked. Conditions: those that each theorem names. -/
open Go Go.Proofs
set_option linter.unusedSimpArgs false
set_option linter.unusedVariables false

theorem v_awake16 : callF TA 9 [] (fun _ => none) 0 = some (RB true) := callF_closed (k := 80) (by kernel_rfl)
def noP : Pai := ⟨0, 0, 0, 0, 0, 0, 0, 0, 0, .sc (.slice none 0 0)⟩
def noS : Sty := ⟨noP, noP, 1, 0, 0, .sc (.slice none 0 0), 0, 255, 0⟩
theorem w_None (m : Mem) (n : Nat) : Fn TA 23 [] m n (fun r _ _ => r = .agg noS.cs) := by
  refine Fn_ofK (fn := F23) rfl (by simp [F23]) ?_
  unfold noS noP
  try simp only [r23_0, r23_1, c23, F23, go_sem, Int.reduceTMod, Int.reduceTDiv, Int.reduceDiv, Int.reduceMod, Int.reduceAdd, Int.reduceSub, Int.reduceMul, Int.reduceNeg, Int.reducePow, Int.reduceEq, ↓reduceIte, Nat.reduceEqDiff, Nat.reduceAdd, Nat.reduceMul, Nat.reduceLeDiff, Nat.reduceSub, Nat.reduceLT, Int.reduceToNat, Int.reduceLT, Int.reduceLE, reduceCtorEq]
  repeat' ((first | refine FK_split (fun h_ => ?_) (fun h_ => ?_) | refine GK_split (fun h_ => ?_) (fun h_ => ?_) | refine ite_both (fun h_ => ?_) (fun h_ => ?_)) <;> (try simp only [decide_eq_true_eq, decide_eq_false_iff_not, Bool.not_true, Bool.not_false, Bool.not_eq_true', Bool.not_eq_false', Bool.not_eq_eq_eq_not, Decidable.not_not] at h_) <;> (try simp only [r23_0, r23_1, c23, F23, h_, go_sem, Int.reduceTMod, Int.reduceTDiv, Int.reduceDiv, Int.reduceMod, Int.reduceAdd, Int.reduceSub, Int.reduceMul, Int.reduceNeg, Int.reducePow, Int.reduceEq, ↓reduceIte, Nat.reduceEqDiff, Nat.reduceAdd, Nat.reduceMul, Nat.reduceLeDiff, Nat.reduceSub, Nat.reduceLT, Int.reduceToNat, Int.reduceLT, Int.reduceLE, reduceCtorEq]))
theorem v_CheckNone (m : Mem) (n : Nat) : callF TA 24 [.agg noS.cs] m n = some (RI 0) := by
  have h := v_SCheck noS [] [] [] m n ⟨RL.nil, RL.nil, RL.nil⟩ (by decide) (by decide) (by decide)
  rw [h]
  rfl
theorem paiB_self (p : Pai) (l : List Stp) : paiB p p l l = true := by simp [paiB]
theorem styB_self (s : Sty) (lf lp : List Stp) (ld : List Int) : styB s s lf lf lp lp ld ld = true := by simp [styB, paiB_self]
theorem rightV_vals (p : Pai) (l : List Stp) : rightV p l = 0 ∨ rightV p l = 30 ∨ rightV p l = 33 := by
  unfold rightV
  repeat' split
  all_goals simp
set_option maxHeartbeats 4000000 in
theorem law6 (s : Sty) (lf lp : List Stp) (ld : List Int) (m : Mem) (n : Nat) (h1 : SRel m n s lf lp ld) (hf : s.fill.by) (hp : s.pen.by) (bf : ∀ x ∈ lf, x.by) (bp : ∀ x ∈ lp, x.by) : Fn TA 6 [.agg s.cs] m n (fun r _ _ => r = RB true) := by
  refine Fn_ofK (fn := F6) rfl (by simp [F6]) ?_
  have hl1 := h1.f.len
  have hl2 := h1.p.len
  have hl3 := h1.d.len
  by_cases g1 : 60 < (lf.length : Int)
  · skip
    try simp only [r6_0, r6_1, r6_2, r6_3, r6_4, r6_5, r6_6, r6_7, r6_8, r6_9, c6, F6, hl1, g1, v_awake16, go_sem, Int.reduceTMod, Int.reduceTDiv, Int.reduceDiv, Int.reduceMod, Int.reduceAdd, Int.reduceSub, Int.reduceMul, Int.reduceNeg, Int.reducePow, Int.reduceEq, ↓reduceIte, Nat.reduceEqDiff, Nat.reduceAdd, Nat.reduceMul, Nat.reduceLeDiff, Nat.reduceSub, Nat.reduceLT, Int.reduceToNat, Int.reduceLT, Int.reduceLE, reduceCtorEq]
    repeat' ((first | refine FK_split (fun h_ => ?_) (fun h_ => ?_) | refine GK_split (fun h_ => ?_) (fun h_ => ?_) | refine ite_both (fun h_ => ?_) (fun h_ => ?_)) <;> (try simp only [decide_eq_true_eq, decide_eq_false_iff_not, Bool.not_true, Bool.not_false, Bool.not_eq_true', Bool.not_eq_false', Bool.not_eq_eq_eq_not, Decidable.not_not] at h_) <;> (try simp only [r6_0, r6_1, r6_2, r6_3, r6_4, r6_5, r6_6, r6_7, r6_8, r6_9, c6, F6, hl1, g1, v_awake16, h_, go_sem, Int.reduceTMod, Int.reduceTDiv, Int.reduceDiv, Int.reduceMod, Int.reduceAdd, Int.reduceSub, Int.reduceMul, Int.reduceNeg, Int.reducePow, Int.reduceEq, ↓reduceIte, Nat.reduceEqDiff, Nat.reduceAdd, Nat.reduceMul, Nat.reduceLeDiff, Nat.reduceSub, Nat.reduceLT, Int.reduceToNat, Int.reduceLT, Int.reduceLE, reduceCtorEq]))
  · by_cases g2 : 60 < (lp.length : Int)
    · skip
      try simp only [r6_0, r6_1, r6_2, r6_3, r6_4, r6_5, r6_6, r6_7, r6_8, r6_9, c6, F6, hl1, hl2, g1, g2, v_awake16, go_sem, Int.reduceTMod, Int.reduceTDiv, Int.reduceDiv, Int.reduceMod, Int.reduceAdd, Int.reduceSub, Int.reduceMul, Int.reduceNeg, Int.reducePow, Int.reduceEq, ↓reduceIte, Nat.reduceEqDiff, Nat.reduceAdd, Nat.reduceMul, Nat.reduceLeDiff, Nat.reduceSub, Nat.reduceLT, Int.reduceToNat, Int.reduceLT, Int.reduceLE, reduceCtorEq]
      repeat' ((first | refine FK_split (fun h_ => ?_) (fun h_ => ?_) | refine GK_split (fun h_ => ?_) (fun h_ => ?_) | refine ite_both (fun h_ => ?_) (fun h_ => ?_)) <;> (try simp only [decide_eq_true_eq, decide_eq_false_iff_not, Bool.not_true, Bool.not_false, Bool.not_eq_true', Bool.not_eq_false', Bool.not_eq_eq_eq_not, Decidable.not_not] at h_) <;> (try simp only [r6_0, r6_1, r6_2, r6_3, r6_4, r6_5, r6_6, r6_7, r6_8, r6_9, c6, F6, hl1, hl2, g1, g2, v_awake16, h_, go_sem, Int.reduceTMod, Int.reduceTDiv, Int.reduceDiv, Int.reduceMod, Int.reduceAdd, Int.reduceSub, Int.reduceMul, Int.reduceNeg, Int.reducePow, Int.reduceEq, ↓reduceIte, Nat.reduceEqDiff, Nat.reduceAdd, Nat.reduceMul, Nat.reduceLeDiff, Nat.reduceSub, Nat.reduceLT, Int.reduceToNat, Int.reduceLT, Int.reduceLE, reduceCtorEq]))
    · by_cases g3 : 60 < (ld.length : Int)
      · skip
        try simp only [r6_0, r6_1, r6_2, r6_3, r6_4, r6_5, r6_6, r6_7, r6_8, r6_9, c6, F6, hl1, hl2, hl3, g1, g2, g3, v_awake16, go_sem, Int.reduceTMod, Int.reduceTDiv, Int.reduceDiv, Int.reduceMod, Int.reduceAdd, Int.reduceSub, Int.reduceMul, Int.reduceNeg, Int.reducePow, Int.reduceEq, ↓reduceIte, Nat.reduceEqDiff, Nat.reduceAdd, Nat.reduceMul, Nat.reduceLeDiff, Nat.reduceSub, Nat.reduceLT, Int.reduceToNat, Int.reduceLT, Int.reduceLE, reduceCtorEq]
        repeat' ((first | refine FK_split (fun h_ => ?_) (fun h_ => ?_) | refine GK_split (fun h_ => ?_) (fun h_ => ?_) | refine ite_both (fun h_ => ?_) (fun h_ => ?_)) <;> (try simp only [decide_eq_true_eq, decide_eq_false_iff_not, Bool.not_true, Bool.not_false, Bool.not_eq_true', Bool.not_eq_false', Bool.not_eq_eq_eq_not, Decidable.not_not] at h_) <;> (try simp only [r6_0, r6_1, r6_2, r6_3, r6_4, r6_5, r6_6, r6_7, r6_8, r6_9, c6, F6, hl1, hl2, hl3, g1, g2, g3, v_awake16, h_, go_sem, Int.reduceTMod, Int.reduceTDiv, Int.reduceDiv, Int.reduceMod, Int.reduceAdd, Int.reduceSub, Int.reduceMul, Int.reduceNeg, Int.reducePow, Int.reduceEq, ↓reduceIte, Nat.reduceEqDiff, Nat.reduceAdd, Nat.reduceMul, Nat.reduceLeDiff, Nat.reduceSub, Nat.reduceLT, Int.reduceToNat, Int.reduceLT, Int.reduceLE, reduceCtorEq]))
      · have v1 := fun M N (hM : FrB n m M) (hN : n ≤ N) => v_right s.fill lf (frz M) N (rl_fr h1.f hM hN) bf hf (by omega)
        have v2 := fun M N (hM : FrB n m M) (hN : n ≤ N) => v_right s.pen lp (frz M) N (rl_fr h1.p hM hN) bp hp (by omega)
        have v3 := fun M N (hM : FrB n m M) (hN : n ≤ N) => v_Right (.one s.dl) ld s.ph (frz M) N (rl_fr h1.d hM hN) (by omega)
        have vC := fun M N (hM : FrB n m M) (hN : n ≤ N) => v_SCheck s lf lp ld (frz M) N (h1.keep hN hM).frz (by omega) (by omega) (by omega)
        have vE := fun M N (hM : FrB n m M) (hN : n ≤ N) => v_SEqual s s lf lf lp lp ld ld (frz M) N (h1.keep hN hM).frz (h1.keep hN hM).frz (by omega) (by omega) (by omega)
        simp only [styB_self] at vE
        have tail : ∀ e : Nat → Reg, e 1 = .one (.ptr n 0) → e 3 = RI (styV s lf lp ld) → RK TA r6_8 e (upd m n (some ⟨s.cs, true⟩)) (n + 1) (Kt.seq (.seq (.reg r6_9) .ret) (Kt.fin [SRes.tmp 2] fun r _ _ => r = RB true)) := by
          intro e e1 e3
          have vN := v_CheckNone
          unfold noS noP at vN
          try simp only [r6_8, go_sem, Int.reduceTMod, Int.reduceTDiv, Int.reduceDiv, Int.reduceMod, Int.reduceAdd, Int.reduceSub, Int.reduceMul, Int.reduceNeg, Int.reducePow, Int.reduceEq, ↓reduceIte, Nat.reduceEqDiff, Nat.reduceAdd, Nat.reduceMul, Nat.reduceLeDiff, Nat.reduceSub, Nat.reduceLT, Int.reduceToNat, Int.reduceLT, Int.reduceLE, reduceCtorEq]
          repeat' ((first | refine FK_split (fun h_ => ?_) (fun h_ => ?_) | refine GK_split (fun h_ => ?_) (fun h_ => ?_) | refine ite_both (fun h_ => ?_) (fun h_ => ?_)) <;> (try simp only [decide_eq_true_eq, decide_eq_false_iff_not, Bool.not_true, Bool.not_false, Bool.not_eq_true', Bool.not_eq_false', Bool.not_eq_eq_eq_not, Decidable.not_not] at h_) <;> (try simp only [r6_8, h_, go_sem, Int.reduceTMod, Int.reduceTDiv, Int.reduceDiv, Int.reduceMod, Int.reduceAdd, Int.reduceSub, Int.reduceMul, Int.reduceNeg, Int.reducePow, Int.reduceEq, ↓reduceIte, Nat.reduceEqDiff, Nat.reduceAdd, Nat.reduceMul, Nat.reduceLeDiff, Nat.reduceSub, Nat.reduceLT, Int.reduceToNat, Int.reduceLT, Int.reduceLE, reduceCtorEq]))
          refine RK_callk ?_
          refine (w_None _ _).mono ?_
          rintro _ m1 n1 rfl
          unfold noS noP
          obtain ⟨M1, hM1⟩ : ∃ M1, M1 = unfrz (upd m n (some ⟨s.cs, true⟩)) (n + 1) m1 := ⟨_, rfl⟩
          obtain ⟨N, hN⟩ : ∃ N, N = max (n + 1) n1 := ⟨_, rfl⟩
          rw [← hM1, ← hN]
          have hb : M1 n = some ⟨s.cs, true⟩ := by rw [hM1, unfrz_at, if_pos (by omega), upd_same]
          have hF : FrB n m M1 := fun id hid => by rw [hM1, unfrz_at, if_pos (by omega), upd_ne _ _ (by omega)]
          have hF' : FrB n m M1 = True := eq_true hF
          have n1' : (n = N) = False := eq_false (by omega)
          have n2' : (n ≤ N) = True := eq_true (by omega)
          have n3' : ∀ k, (n ≤ N + k) = True := fun k => eq_true (by omega)
          have hF2 : ∀ M b, FrB n m (upd M N b) = FrB n m M := fun M b => by
            obtain ⟨k, rfl⟩ : ∃ k, N = n + k := ⟨N - n, by omega⟩
            exact FrB_upd n k m M b
          try simp only [r6_9, e1, e3, hb, rd_of hb, n1', n2', n3', vC, vE, vN, v_awake16, hF', hF2, go_sem, Int.reduceTMod, Int.reduceTDiv, Int.reduceDiv, Int.reduceMod, Int.reduceAdd, Int.reduceSub, Int.reduceMul, Int.reduceNeg, Int.reducePow, Int.reduceEq, ↓reduceIte, Nat.reduceEqDiff, Nat.reduceAdd, Nat.reduceMul, Nat.reduceLeDiff, Nat.reduceSub, Nat.reduceLT, Int.reduceToNat, Int.reduceLT, Int.reduceLE, reduceCtorEq]
          repeat' ((first | refine FK_split (fun h_ => ?_) (fun h_ => ?_) | refine GK_split (fun h_ => ?_) (fun h_ => ?_) | refine ite_both (fun h_ => ?_) (fun h_ => ?_)) <;> (try simp only [decide_eq_true_eq, decide_eq_false_iff_not, Bool.not_true, Bool.not_false, Bool.not_eq_true', Bool.not_eq_false', Bool.not_eq_eq_eq_not, Decidable.not_not] at h_) <;> (try simp only [r6_9, e1, e3, hb, rd_of hb, n1', n2', n3', vC, vE, vN, v_awake16, hF', hF2, h_, go_sem, Int.reduceTMod, Int.reduceTDiv, Int.reduceDiv, Int.reduceMod, Int.reduceAdd, Int.reduceSub, Int.reduceMul, Int.reduceNeg, Int.reducePow, Int.reduceEq, ↓reduceIte, Nat.reduceEqDiff, Nat.reduceAdd, Nat.reduceMul, Nat.reduceLeDiff, Nat.reduceSub, Nat.reduceLT, Int.reduceToNat, Int.reduceLT, Int.reduceLE, reduceCtorEq]))
        have fin : ∀ e : Nat → Reg, e 1 = .one (.ptr n 0) → e 3 = RI (styV s lf lp ld) → RK TA r6_8 e (upd m n (some ⟨[I s.fill.k, U8 s.fill.c0, U8 s.fill.c1, U8 s.fill.c2, U8 s.fill.c3, I s.fill.fx, I s.fill.fy, I s.fill.tx, I s.fill.ty, s.fill.st,
            I s.pen.k, U8 s.pen.c0, U8 s.pen.c1, U8 s.pen.c2, U8 s.pen.c3, I s.pen.fx, I s.pen.fy, I s.pen.tx, I s.pen.ty, s.pen.st, I s.rule, I s.half, I s.cap, s.dl, I s.ph, I s.op, I s.mode], true⟩)) (n + 1) (Kt.seq (.seq (.reg r6_9) .ret) (Kt.fin [SRes.tmp 2] fun r _ _ => r = RB true)) := tail
        clear vC vE tail
        unfold styV at fin
        by_cases a1 : rightV s.fill lf = 0
        · rw [a1] at v1
          by_cases a2 : rightV s.pen lp = 0
          · rw [a2] at v2
            simp only [a1, a2, ne_eq, not_true_eq_false, if_false] at fin
            by_cases hg : rngP s
            · simp only [if_pos hg] at fin
              obtain ⟨⟨b1, b2⟩, ⟨b3, b4⟩, ⟨b5, b6⟩, ⟨b7, b8⟩, b9, b10⟩ := hg
              have e3 : (s.half < 0) = False := eq_false (by omega)
              have e4 : (32768 < s.half) = False := eq_false (by omega)
              have e5 : (s.cap < 0) = False := eq_false (by omega)
              have e6 : (2 < s.cap) = False := eq_false (by omega)
              have e7 : (s.op < 0) = False := eq_false (by omega)
              have e8 : (255 < s.op) = False := eq_false (by omega)
              have e9 : (s.mode < 0) = False := eq_false (by omega)
              have e10 : (4 < s.mode) = False := eq_false (by omega)
              have e12 : s.rule = 1 ∨ s.rule = 2 := by omega
              cases hr : rightB ld s.ph <;> rw [hr] at v3 <;> rw [hr] at fin <;> rcases e12 with e1 | e1
              · skip
                try simp only [F6, c6, r6_0, r6_1, r6_2, r6_3, r6_4, r6_5, r6_6, r6_7, hl1, hl2, hl3, g1, g2, g3, v1, v2, v3, e1, e3, e4, e5, e6, e7, e8, e9, e10, FrB_refl, FrB_upd, FrB_upd0, Nat.le_add_right, go_sem, Int.reduceTMod, Int.reduceTDiv, Int.reduceDiv, Int.reduceMod, Int.reduceAdd, Int.reduceSub, Int.reduceMul, Int.reduceNeg, Int.reducePow, Int.reduceEq, ↓reduceIte, Nat.reduceEqDiff, Nat.reduceAdd, Nat.reduceMul, Nat.reduceLeDiff, Nat.reduceSub, Nat.reduceLT, Int.reduceToNat, Int.reduceLT, Int.reduceLE, reduceCtorEq]
                repeat' ((first | refine FK_split (fun h_ => ?_) (fun h_ => ?_) | refine GK_split (fun h_ => ?_) (fun h_ => ?_) | refine ite_both (fun h_ => ?_) (fun h_ => ?_)) <;> (try simp only [decide_eq_true_eq, decide_eq_false_iff_not, Bool.not_true, Bool.not_false, Bool.not_eq_true', Bool.not_eq_false', Bool.not_eq_eq_eq_not, Decidable.not_not] at h_) <;> (try simp only [F6, c6, r6_0, r6_1, r6_2, r6_3, r6_4, r6_5, r6_6, r6_7, hl1, hl2, hl3, g1, g2, g3, v1, v2, v3, e1, e3, e4, e5, e6, e7, e8, e9, e10, FrB_refl, FrB_upd, FrB_upd0, Nat.le_add_right, h_, go_sem, Int.reduceTMod, Int.reduceTDiv, Int.reduceDiv, Int.reduceMod, Int.reduceAdd, Int.reduceSub, Int.reduceMul, Int.reduceNeg, Int.reducePow, Int.reduceEq, ↓reduceIte, Nat.reduceEqDiff, Nat.reduceAdd, Nat.reduceMul, Nat.reduceLeDiff, Nat.reduceSub, Nat.reduceLT, Int.reduceToNat, Int.reduceLT, Int.reduceLE, reduceCtorEq]))
                exact fin _ (by simp only [go_sem, Int.reduceTMod, Int.reduceTDiv, Int.reduceDiv, Int.reduceMod, Int.reduceAdd, Int.reduceSub, Int.reduceMul, Int.reduceNeg, Int.reducePow, Int.reduceEq, ↓reduceIte, Nat.reduceEqDiff, Nat.reduceAdd, Nat.reduceMul, Nat.reduceLeDiff, Nat.reduceSub, Nat.reduceLT, Int.reduceToNat, Int.reduceLT, Int.reduceLE, reduceCtorEq]) (by simp only [go_sem, Int.reduceTMod, Int.reduceTDiv, Int.reduceDiv, Int.reduceMod, Int.reduceAdd, Int.reduceSub, Int.reduceMul, Int.reduceNeg, Int.reducePow, Int.reduceEq, ↓reduceIte, Nat.reduceEqDiff, Nat.reduceAdd, Nat.reduceMul, Nat.reduceLeDiff, Nat.reduceSub, Nat.reduceLT, Int.reduceToNat, Int.reduceLT, Int.reduceLE, reduceCtorEq])
              · skip
                try simp only [F6, c6, r6_0, r6_1, r6_2, r6_3, r6_4, r6_5, r6_6, r6_7, hl1, hl2, hl3, g1, g2, g3, v1, v2, v3, e1, e3, e4, e5, e6, e7, e8, e9, e10, FrB_refl, FrB_upd, FrB_upd0, Nat.le_add_right, go_sem, Int.reduceTMod, Int.reduceTDiv, Int.reduceDiv, Int.reduceMod, Int.reduceAdd, Int.reduceSub, Int.reduceMul, Int.reduceNeg, Int.reducePow, Int.reduceEq, ↓reduceIte, Nat.reduceEqDiff, Nat.reduceAdd, Nat.reduceMul, Nat.reduceLeDiff, Nat.reduceSub, Nat.reduceLT, Int.reduceToNat, Int.reduceLT, Int.reduceLE, reduceCtorEq]
                repeat' ((first | refine FK_split (fun h_ => ?_) (fun h_ => ?_) | refine GK_split (fun h_ => ?_) (fun h_ => ?_) | refine ite_both (fun h_ => ?_) (fun h_ => ?_)) <;> (try simp only [decide_eq_true_eq, decide_eq_false_iff_not, Bool.not_true, Bool.not_false, Bool.not_eq_true', Bool.not_eq_false', Bool.not_eq_eq_eq_not, Decidable.not_not] at h_) <;> (try simp only [F6, c6, r6_0, r6_1, r6_2, r6_3, r6_4, r6_5, r6_6, r6_7, hl1, hl2, hl3, g1, g2, g3, v1, v2, v3, e1, e3, e4, e5, e6, e7, e8, e9, e10, FrB_refl, FrB_upd, FrB_upd0, Nat.le_add_right, h_, go_sem, Int.reduceTMod, Int.reduceTDiv, Int.reduceDiv, Int.reduceMod, Int.reduceAdd, Int.reduceSub, Int.reduceMul, Int.reduceNeg, Int.reducePow, Int.reduceEq, ↓reduceIte, Nat.reduceEqDiff, Nat.reduceAdd, Nat.reduceMul, Nat.reduceLeDiff, Nat.reduceSub, Nat.reduceLT, Int.reduceToNat, Int.reduceLT, Int.reduceLE, reduceCtorEq]))
                exact fin _ (by simp only [go_sem, Int.reduceTMod, Int.reduceTDiv, Int.reduceDiv, Int.reduceMod, Int.reduceAdd, Int.reduceSub, Int.reduceMul, Int.reduceNeg, Int.reducePow, Int.reduceEq, ↓reduceIte, Nat.reduceEqDiff, Nat.reduceAdd, Nat.reduceMul, Nat.reduceLeDiff, Nat.reduceSub, Nat.reduceLT, Int.reduceToNat, Int.reduceLT, Int.reduceLE, reduceCtorEq]) (by simp only [go_sem, Int.reduceTMod, Int.reduceTDiv, Int.reduceDiv, Int.reduceMod, Int.reduceAdd, Int.reduceSub, Int.reduceMul, Int.reduceNeg, Int.reducePow, Int.reduceEq, ↓reduceIte, Nat.reduceEqDiff, Nat.reduceAdd, Nat.reduceMul, Nat.reduceLeDiff, Nat.reduceSub, Nat.reduceLT, Int.reduceToNat, Int.reduceLT, Int.reduceLE, reduceCtorEq])
              · skip
                try simp only [F6, c6, r6_0, r6_1, r6_2, r6_3, r6_4, r6_5, r6_6, r6_7, hl1, hl2, hl3, g1, g2, g3, v1, v2, v3, e1, e3, e4, e5, e6, e7, e8, e9, e10, FrB_refl, FrB_upd, FrB_upd0, Nat.le_add_right, go_sem, Int.reduceTMod, Int.reduceTDiv, Int.reduceDiv, Int.reduceMod, Int.reduceAdd, Int.reduceSub, Int.reduceMul, Int.reduceNeg, Int.reducePow, Int.reduceEq, ↓reduceIte, Nat.reduceEqDiff, Nat.reduceAdd, Nat.reduceMul, Nat.reduceLeDiff, Nat.reduceSub, Nat.reduceLT, Int.reduceToNat, Int.reduceLT, Int.reduceLE, reduceCtorEq]
                repeat' ((first | refine FK_split (fun h_ => ?_) (fun h_ => ?_) | refine GK_split (fun h_ => ?_) (fun h_ => ?_) | refine ite_both (fun h_ => ?_) (fun h_ => ?_)) <;> (try simp only [decide_eq_true_eq, decide_eq_false_iff_not, Bool.not_true, Bool.not_false, Bool.not_eq_true', Bool.not_eq_false', Bool.not_eq_eq_eq_not, Decidable.not_not] at h_) <;> (try simp only [F6, c6, r6_0, r6_1, r6_2, r6_3, r6_4, r6_5, r6_6, r6_7, hl1, hl2, hl3, g1, g2, g3, v1, v2, v3, e1, e3, e4, e5, e6, e7, e8, e9, e10, FrB_refl, FrB_upd, FrB_upd0, Nat.le_add_right, h_, go_sem, Int.reduceTMod, Int.reduceTDiv, Int.reduceDiv, Int.reduceMod, Int.reduceAdd, Int.reduceSub, Int.reduceMul, Int.reduceNeg, Int.reducePow, Int.reduceEq, ↓reduceIte, Nat.reduceEqDiff, Nat.reduceAdd, Nat.reduceMul, Nat.reduceLeDiff, Nat.reduceSub, Nat.reduceLT, Int.reduceToNat, Int.reduceLT, Int.reduceLE, reduceCtorEq]))
                exact fin _ (by simp only [go_sem, Int.reduceTMod, Int.reduceTDiv, Int.reduceDiv, Int.reduceMod, Int.reduceAdd, Int.reduceSub, Int.reduceMul, Int.reduceNeg, Int.reducePow, Int.reduceEq, ↓reduceIte, Nat.reduceEqDiff, Nat.reduceAdd, Nat.reduceMul, Nat.reduceLeDiff, Nat.reduceSub, Nat.reduceLT, Int.reduceToNat, Int.reduceLT, Int.reduceLE, reduceCtorEq]) (by simp only [go_sem, Int.reduceTMod, Int.reduceTDiv, Int.reduceDiv, Int.reduceMod, Int.reduceAdd, Int.reduceSub, Int.reduceMul, Int.reduceNeg, Int.reducePow, Int.reduceEq, ↓reduceIte, Nat.reduceEqDiff, Nat.reduceAdd, Nat.reduceMul, Nat.reduceLeDiff, Nat.reduceSub, Nat.reduceLT, Int.reduceToNat, Int.reduceLT, Int.reduceLE, reduceCtorEq])
              · skip
                try simp only [F6, c6, r6_0, r6_1, r6_2, r6_3, r6_4, r6_5, r6_6, r6_7, hl1, hl2, hl3, g1, g2, g3, v1, v2, v3, e1, e3, e4, e5, e6, e7, e8, e9, e10, FrB_refl, FrB_upd, FrB_upd0, Nat.le_add_right, go_sem, Int.reduceTMod, Int.reduceTDiv, Int.reduceDiv, Int.reduceMod, Int.reduceAdd, Int.reduceSub, Int.reduceMul, Int.reduceNeg, Int.reducePow, Int.reduceEq, ↓reduceIte, Nat.reduceEqDiff, Nat.reduceAdd, Nat.reduceMul, Nat.reduceLeDiff, Nat.reduceSub, Nat.reduceLT, Int.reduceToNat, Int.reduceLT, Int.reduceLE, reduceCtorEq]
                repeat' ((first | refine FK_split (fun h_ => ?_) (fun h_ => ?_) | refine GK_split (fun h_ => ?_) (fun h_ => ?_) | refine ite_both (fun h_ => ?_) (fun h_ => ?_)) <;> (try simp only [decide_eq_true_eq, decide_eq_false_iff_not, Bool.not_true, Bool.not_false, Bool.not_eq_true', Bool.not_eq_false', Bool.not_eq_eq_eq_not, Decidable.not_not] at h_) <;> (try simp only [F6, c6, r6_0, r6_1, r6_2, r6_3, r6_4, r6_5, r6_6, r6_7, hl1, hl2, hl3, g1, g2, g3, v1, v2, v3, e1, e3, e4, e5, e6, e7, e8, e9, e10, FrB_refl, FrB_upd, FrB_upd0, Nat.le_add_right, h_, go_sem, Int.reduceTMod, Int.reduceTDiv, Int.reduceDiv, Int.reduceMod, Int.reduceAdd, Int.reduceSub, Int.reduceMul, Int.reduceNeg, Int.reducePow, Int.reduceEq, ↓reduceIte, Nat.reduceEqDiff, Nat.reduceAdd, Nat.reduceMul, Nat.reduceLeDiff, Nat.reduceSub, Nat.reduceLT, Int.reduceToNat, Int.reduceLT, Int.reduceLE, reduceCtorEq]))
                exact fin _ (by simp only [go_sem, Int.reduceTMod, Int.reduceTDiv, Int.reduceDiv, Int.reduceMod, Int.reduceAdd, Int.reduceSub, Int.reduceMul, Int.reduceNeg, Int.reducePow, Int.reduceEq, ↓reduceIte, Nat.reduceEqDiff, Nat.reduceAdd, Nat.reduceMul, Nat.reduceLeDiff, Nat.reduceSub, Nat.reduceLT, Int.reduceToNat, Int.reduceLT, Int.reduceLE, reduceCtorEq]) (by simp only [go_sem, Int.reduceTMod, Int.reduceTDiv, Int.reduceDiv, Int.reduceMod, Int.reduceAdd, Int.reduceSub, Int.reduceMul, Int.reduceNeg, Int.reducePow, Int.reduceEq, ↓reduceIte, Nat.reduceEqDiff, Nat.reduceAdd, Nat.reduceMul, Nat.reduceLeDiff, Nat.reduceSub, Nat.reduceLT, Int.reduceToNat, Int.reduceLT, Int.reduceLE, reduceCtorEq])
            · simp only [if_neg hg] at fin
              try simp only [F6, c6, r6_0, r6_1, r6_2, r6_3, r6_4, r6_5, r6_6, r6_7, hl1, hl2, hl3, g1, g2, g3, v1, v2, v3, FrB_refl, FrB_upd, FrB_upd0, Nat.le_add_right, go_sem, Int.reduceTMod, Int.reduceTDiv, Int.reduceDiv, Int.reduceMod, Int.reduceAdd, Int.reduceSub, Int.reduceMul, Int.reduceNeg, Int.reducePow, Int.reduceEq, ↓reduceIte, Nat.reduceEqDiff, Nat.reduceAdd, Nat.reduceMul, Nat.reduceLeDiff, Nat.reduceSub, Nat.reduceLT, Int.reduceToNat, Int.reduceLT, Int.reduceLE, reduceCtorEq]
              repeat' ((first | refine FK_split (fun h_ => ?_) (fun h_ => ?_) | refine GK_split (fun h_ => ?_) (fun h_ => ?_) | refine ite_both (fun h_ => ?_) (fun h_ => ?_)) <;> (try simp only [decide_eq_true_eq, decide_eq_false_iff_not, Bool.not_true, Bool.not_false, Bool.not_eq_true', Bool.not_eq_false', Bool.not_eq_eq_eq_not, Decidable.not_not] at h_) <;> (try simp only [F6, c6, r6_0, r6_1, r6_2, r6_3, r6_4, r6_5, r6_6, r6_7, hl1, hl2, hl3, g1, g2, g3, v1, v2, v3, FrB_refl, FrB_upd, FrB_upd0, Nat.le_add_right, h_, go_sem, Int.reduceTMod, Int.reduceTDiv, Int.reduceDiv, Int.reduceMod, Int.reduceAdd, Int.reduceSub, Int.reduceMul, Int.reduceNeg, Int.reducePow, Int.reduceEq, ↓reduceIte, Nat.reduceEqDiff, Nat.reduceAdd, Nat.reduceMul, Nat.reduceLeDiff, Nat.reduceSub, Nat.reduceLT, Int.reduceToNat, Int.reduceLT, Int.reduceLE, reduceCtorEq]))
              all_goals first | (refine fin _ ?_ ?_ <;> (simp only [go_sem, Int.reduceTMod, Int.reduceTDiv, Int.reduceDiv, Int.reduceMod, Int.reduceAdd, Int.reduceSub, Int.reduceMul, Int.reduceNeg, Int.reducePow, Int.reduceEq, ↓reduceIte, Nat.reduceEqDiff, Nat.reduceAdd, Nat.reduceMul, Nat.reduceLeDiff, Nat.reduceSub, Nat.reduceLT, Int.reduceToNat, Int.reduceLT, Int.reduceLE, reduceCtorEq]; done)) | exact absurd (by unfold rngP; omega) hg
          · simp only [a1, a2, ne_eq, not_true_eq_false, not_false_eq_true, if_false, if_true] at fin
            try simp only [F6, c6, r6_0, r6_1, r6_2, r6_3, r6_4, r6_5, r6_6, r6_7, hl1, hl2, hl3, g1, g2, g3, v1, v2, a2, FrB_refl, FrB_upd, FrB_upd0, Nat.le_add_right, go_sem, Int.reduceTMod, Int.reduceTDiv, Int.reduceDiv, Int.reduceMod, Int.reduceAdd, Int.reduceSub, Int.reduceMul, Int.reduceNeg, Int.reducePow, Int.reduceEq, ↓reduceIte, Nat.reduceEqDiff, Nat.reduceAdd, Nat.reduceMul, Nat.reduceLeDiff, Nat.reduceSub, Nat.reduceLT, Int.reduceToNat, Int.reduceLT, Int.reduceLE, reduceCtorEq]
            repeat' ((first | refine FK_split (fun h_ => ?_) (fun h_ => ?_) | refine GK_split (fun h_ => ?_) (fun h_ => ?_) | refine ite_both (fun h_ => ?_) (fun h_ => ?_)) <;> (try simp only [decide_eq_true_eq, decide_eq_false_iff_not, Bool.not_true, Bool.not_false, Bool.not_eq_true', Bool.not_eq_false', Bool.not_eq_eq_eq_not, Decidable.not_not] at h_) <;> (try simp only [F6, c6, r6_0, r6_1, r6_2, r6_3, r6_4, r6_5, r6_6, r6_7, hl1, hl2, hl3, g1, g2, g3, v1, v2, a2, FrB_refl, FrB_upd, FrB_upd0, Nat.le_add_right, h_, go_sem, Int.reduceTMod, Int.reduceTDiv, Int.reduceDiv, Int.reduceMod, Int.reduceAdd, Int.reduceSub, Int.reduceMul, Int.reduceNeg, Int.reducePow, Int.reduceEq, ↓reduceIte, Nat.reduceEqDiff, Nat.reduceAdd, Nat.reduceMul, Nat.reduceLeDiff, Nat.reduceSub, Nat.reduceLT, Int.reduceToNat, Int.reduceLT, Int.reduceLE, reduceCtorEq]))
            exact fin _ (by simp only [go_sem, Int.reduceTMod, Int.reduceTDiv, Int.reduceDiv, Int.reduceMod, Int.reduceAdd, Int.reduceSub, Int.reduceMul, Int.reduceNeg, Int.reducePow, Int.reduceEq, ↓reduceIte, Nat.reduceEqDiff, Nat.reduceAdd, Nat.reduceMul, Nat.reduceLeDiff, Nat.reduceSub, Nat.reduceLT, Int.reduceToNat, Int.reduceLT, Int.reduceLE, reduceCtorEq]) (by simp only [go_sem, Int.reduceTMod, Int.reduceTDiv, Int.reduceDiv, Int.reduceMod, Int.reduceAdd, Int.reduceSub, Int.reduceMul, Int.reduceNeg, Int.reducePow, Int.reduceEq, ↓reduceIte, Nat.reduceEqDiff, Nat.reduceAdd, Nat.reduceMul, Nat.reduceLeDiff, Nat.reduceSub, Nat.reduceLT, Int.reduceToNat, Int.reduceLT, Int.reduceLE, reduceCtorEq])
        · simp only [a1, ne_eq, not_true_eq_false, not_false_eq_true, if_false, if_true] at fin
          try simp only [F6, c6, r6_0, r6_1, r6_2, r6_3, r6_4, r6_5, r6_6, r6_7, hl1, hl2, hl3, g1, g2, g3, v1, a1, FrB_refl, FrB_upd, FrB_upd0, Nat.le_add_right, go_sem, Int.reduceTMod, Int.reduceTDiv, Int.reduceDiv, Int.reduceMod, Int.reduceAdd, Int.reduceSub, Int.reduceMul, Int.reduceNeg, Int.reducePow, Int.reduceEq, ↓reduceIte, Nat.reduceEqDiff, Nat.reduceAdd, Nat.reduceMul, Nat.reduceLeDiff, Nat.reduceSub, Nat.reduceLT, Int.reduceToNat, Int.reduceLT, Int.reduceLE, reduceCtorEq]
          repeat' ((first | refine FK_split (fun h_ => ?_) (fun h_ => ?_) | refine GK_split (fun h_ => ?_) (fun h_ => ?_) | refine ite_both (fun h_ => ?_) (fun h_ => ?_)) <;> (try simp only [decide_eq_true_eq, decide_eq_false_iff_not, Bool.not_true, Bool.not_false, Bool.not_eq_true', Bool.not_eq_false', Bool.not_eq_eq_eq_not, Decidable.not_not] at h_) <;> (try simp only [F6, c6, r6_0, r6_1, r6_2, r6_3, r6_4, r6_5, r6_6, r6_7, hl1, hl2, hl3, g1, g2, g3, v1, a1, FrB_refl, FrB_upd, FrB_upd0, Nat.le_add_right, h_, go_sem, Int.reduceTMod, Int.reduceTDiv, Int.reduceDiv, Int.reduceMod, Int.reduceAdd, Int.reduceSub, Int.reduceMul, Int.reduceNeg, Int.reducePow, Int.reduceEq, ↓reduceIte, Nat.reduceEqDiff, Nat.reduceAdd, Nat.reduceMul, Nat.reduceLeDiff, Nat.reduceSub, Nat.reduceLT, Int.reduceToNat, Int.reduceLT, Int.reduceLE, reduceCtorEq]))
          exact fin _ (by simp only [go_sem, Int.reduceTMod, Int.reduceTDiv, Int.reduceDiv, Int.reduceMod, Int.reduceAdd, Int.reduceSub, Int.reduceMul, Int.reduceNeg, Int.reducePow, Int.reduceEq, ↓reduceIte, Nat.reduceEqDiff, Nat.reduceAdd, Nat.reduceMul, Nat.reduceLeDiff, Nat.reduceSub, Nat.reduceLT, Int.reduceToNat, Int.reduceLT, Int.reduceLE, reduceCtorEq]) (by simp only [go_sem, Int.reduceTMod, Int.reduceTDiv, Int.reduceDiv, Int.reduceMod, Int.reduceAdd, Int.reduceSub, Int.reduceMul, Int.reduceNeg, Int.reducePow, Int.reduceEq, ↓reduceIte, Nat.reduceEqDiff, Nat.reduceAdd, Nat.reduceMul, Nat.reduceLeDiff, Nat.reduceSub, Nat.reduceLT, Int.reduceToNat, Int.reduceLT, Int.reduceLE, reduceCtorEq])

/- SyQ: arguments of a law, opened for the evaluator. A plain library of this session's own; conditions: none beyond those that each theorem names. -/
open Go.RowKit Go.ChangeShapes Go.WideShapes Go.Deep

inductive CK where
  | int (k : IntKind)
  | bool

/-- Cells of these kinds. -/
def CksOk : List CK → List Value → Prop
  | [], vs => vs = []
  | .int k :: ks, vs => ∃ n r, vs = .int k n :: r ∧ (k.min ≤ n ∧ n ≤ k.max) ∧ CksOk ks r
  | .bool :: ks, vs => ∃ b r, vs = .bool b :: r ∧ CksOk ks r

def goF (P : Program) (rec : TypeId → Option (List CK)) : List Field → Nat → Option (List CK)
  | [], _ => some []
  | f :: fs, off =>
    match rec f.type with
    | none => none
    | some ks => if f.offset = off ∧ ks.length = P.cellsOf f.type then (goF P rec fs (off + ks.length)).map (ks ++ ·) else none

/-- The kinds of a type's cells, where all are numbers or Bools. -/
def kindsK (P : Program) : Nat → TypeId → Option (List CK)
  | 0, _ => none
  | n + 1, t =>
    match P.underlying t with
    | some (.int k) => some [.int k]
    | some .bool => some [.bool]
    | some (.struct fs) => (goF P (kindsK P n) fs.toList 0).bind fun ks => if ks.length = P.cellsOf t then some ks else none
    | some (.array m e) => (kindsK P n e).bind fun ks => if ks.length = P.cellsOf e ∧ m * ks.length = P.cellsOf t then some (List.replicate m ks).flatten else none
    | _ => none

theorem CksOk.app : ∀ {ks ls : List CK} {a b : List Value}, CksOk ks a → CksOk ls b → CksOk (ks ++ ls) (a ++ b)
  | [], ls, a, b, h, h' => by simp only [CksOk] at h; subst h; exact h'
  | .int k :: ks, ls, a, b, h, h' => by
    obtain ⟨n, r, rfl, h1, h2⟩ := h
    exact ⟨n, r ++ b, rfl, h1, CksOk.app h2 h'⟩
  | .bool :: ks, ls, a, b, h, h' => by
    obtain ⟨n, r, rfl, h2⟩ := h
    exact ⟨n, r ++ b, rfl, CksOk.app h2 h'⟩

theorem CksOk.len : ∀ {ks : List CK} {a : List Value}, CksOk ks a → a.length = ks.length
  | [], a, h => by simp only [CksOk] at h; subst h; rfl
  | .int k :: ks, a, h => by
    obtain ⟨n, r, rfl, h1, h2⟩ := h
    simp [CksOk.len h2]
  | .bool :: ks, a, h => by
    obtain ⟨n, r, rfl, h2⟩ := h
    simp [CksOk.len h2]

theorem CksOk.rel {ρ : Loc} {n : Nat} {w : World} : ∀ {ks : List CK} {a : List Value}, CksOk ks a → CRels ρ n w (a.map .sc) a
  | [], a, h => by simp only [CksOk] at h; subst h; simp [CRels]
  | .int k :: ks, a, h => by
    obtain ⟨m, r, rfl, h1, h2⟩ := h
    simp only [List.map_cons, CRels]
    exact ⟨_, _, rfl, ⟨rfl, rfl⟩, CksOk.rel h2⟩
  | .bool :: ks, a, h => by
    obtain ⟨m, r, rfl, h2⟩ := h
    simp only [List.map_cons, CRels]
    exact ⟨_, _, rfl, ⟨rfl, rfl⟩, CksOk.rel h2⟩

/-- Whatever reads as_ data of the type has these cells. -/
def OpK (P : Program) (T : TypeId) (ks : List CK) : Prop :=
  ∀ (H : Type) (enc : TypeId × Value → H) (w : World) (base : Nat) (spare : Nat → Bool) (held : Bool) (fuel : Nat) (cs : List Value) (x : DataW H × List MemPlace),
    DataW.trod enc P w base spare held fuel T cs = some x → CksOk ks cs

theorem has_of_wf {k : IntKind} {n : Int} (h : (Lit.int k n).wf = true) : k.min ≤ n ∧ n ≤ k.max := by
  simpa only [Lit.wf, Bool.and_eq_true, decide_eq_true_eq] using h

theorem goF_ok {P : Program} {rec : TypeId → Option (List CK)} (hrec : ∀ t ks, rec t = some ks → OpK P t ks) {H : Type} {enc : TypeId × Value → H} {w : World} {base : Nat} {spare : Nat → Bool} {held : Bool} {fuel : Nat} :
    ∀ {fs : List Field} {off : Nat} {ks : List CK} {cs : List Value}, goF P rec fs off = some ks → cs.length = off + ks.length →
      (∀ f ∈ fs, ∃ x, DataW.trod enc P w base spare held fuel f.type ((cs.drop f.offset).take (P.cellsOf f.type)) = some x) → CksOk ks (cs.drop off)
  | [], off, ks, cs, h, hl, hf => by
    simp only [goF, Option.some.injEq] at h
    subst h
    show cs.drop off = []
    exact List.drop_eq_nil_of_le (by simp at hl; omega)
  | f :: fs, off, ks, cs, h, hl, hf => by
    simp only [goF] at h
    split at h
    · cases h
    rename_i ks1 h1
    split at h
    case isFalse => cases h
    rename_i hc
    obtain ⟨ks2, h2, rfl⟩ := Option.map_eq_some_iff.1 h
    obtain ⟨x, hx⟩ := hf f (by simp)
    have h3 := hrec _ _ h1 H enc w base spare held fuel _ _ hx
    rw [hc.1, ← hc.2] at h3
    have h4 := goF_ok hrec (fs := fs) (off := off + ks1.length) (cs := cs) h2 (by simp at hl; omega) (fun g hg => hf g (by simp [hg]))
    have := h3.app h4
    rwa [← List.drop_drop, List.take_append_drop] at this

theorem rep_ok {ks : List CK} : ∀ (m : Nat) (cs : List Value), cs.length = m * ks.length → (∀ i, i < m → CksOk ks ((cs.drop (i * ks.length)).take ks.length)) → CksOk (List.replicate m ks).flatten cs
  | 0, cs, hl, h => by
    simp only [Nat.zero_mul, List.length_eq_zero_iff] at hl
    subst hl
    exact rfl
  | m + 1, cs, hl, h => by
    rw [List.replicate_succ, List.flatten_cons]
    have h0 := h 0 (by omega)
    rw [Nat.zero_mul, List.drop_zero] at h0
    have h1 := rep_ok (ks := ks) m (cs.drop ks.length) (by rw [List.length_drop, hl, Nat.succ_mul]; omega) (fun i hi => by
      have := h (i + 1) (by omega)
      rwa [Nat.succ_mul, Nat.add_comm, ← List.drop_drop] at this)
    have := h0.app h1
    rwa [List.take_append_drop] at this

theorem kindsK_ok {P : Program} : ∀ {k : Nat} {T : TypeId} {ks : List CK}, kindsK P k T = some ks → OpK P T ks
  | 0, T, ks, h => by simp [kindsK] at h
  | k + 1, T, ks, h => by
    intro H enc w base spare held fuel cs x hx
    simp only [kindsK] at h
    split at h
    · rename_i kd ht
      cases h
      obtain ⟨n, rfl, _, hw⟩ := DataW.trod_int ht hx
      exact ⟨n, [], rfl, has_of_wf hw, rfl⟩
    · rename_i ht
      cases h
      obtain ⟨b, rfl, _⟩ := DataW.trod_bool ht hx
      exact ⟨b, [], rfl, rfl⟩
    · rename_i fs ht
      obtain ⟨ks', h1, h2⟩ := Option.bind_eq_some_iff.1 h
      split at h2
      case isFalse => cases h2
      cases h2
      rename_i hlen
      obtain ⟨xs, n, _, _, hl, hxs, hf⟩ := DataW.trod_struct ht hx
      have := goF_ok (fun t ks h => kindsK_ok h) (H := H) (enc := enc) (w := w) (base := base) (spare := spare) (held := held) (fuel := n) (cs := cs) h1 (by rw [hl, hlen]; omega) (fun f hfm => by
        obtain ⟨i, hi, rfl⟩ := List.mem_iff_getElem.1 hfm
        have hi' : i < fs.size := by simpa using hi
        have := hf i fs[i] (by simp [hi'])
        rw [List.getElem?_eq_getElem (by omega)] at this
        exact ⟨_, by simpa using this⟩)
      rwa [List.drop_zero] at this
    · rename_i m e ht
      obtain ⟨ks', h1, h2⟩ := Option.bind_eq_some_iff.1 h
      split at h2
      case isFalse => cases h2
      cases h2
      rename_i hc
      obtain ⟨xs, n, _, _, hl, hxs, hf⟩ := DataW.trod_array ht hx
      refine rep_ok m cs (by rw [hl, hc.2]) (fun i hi => ?_)
      have := hf i hi
      rw [List.getElem?_eq_getElem (by omega), ← hc.1] at this
      exact kindsK_ok h1 H enc w base spare held n _ _ this
    · cases h

/-- A flat argument that is a struct or an array. -/
theorem arg_agg {P : Program} {T : TypeId} {ks : List CK} {k : Nat} (hk : kindsK P k T = some ks) {H : Type} {enc : TypeId × Value → H} {w : World} {base : Nat} {spare : Nat → Bool} {held : Bool} {cs : Array Value} {d : DataW H} {ps : List MemPlace}
    (h : DataW.Trod enc P w base spare held T (.agg cs) d ps) : ∃ l : List Value, cs = l.toArray ∧ CksOk ks l := by
  obtain ⟨fuel, hf⟩ := h
  exact ⟨cs.toList, by simp, kindsK_ok hk H enc w base spare held fuel _ _ hf⟩

theorem arg_int {P : Program} {T : TypeId} {k : IntKind} {w : World} {base : Nat} {v : Value} (ht : P.underlying T = some (.int k)) (h : Value.okWide P w .any base T v) : ∃ n, v = .int k n ∧ k.min ≤ n ∧ n ≤ k.max := by
  simp only [Value.okWide, ht, Cell.okWide] at h
  cases v <;> simp_all [Cell.ok, IntKind.has]

theorem arg_arr {P : Program} {w : World} {r : Reach} {base : Nat} {t e : TypeId} {n : Nat} {v : Value} (ht : P.underlying t = some (.array n e)) (h : Value.okWide P w r base t v) : ∃ cs, v = .agg cs ∧ cs.size = P.cellsOf t := by
  simp only [Value.okWide, ht] at h
  obtain ⟨cs, h1, h2, _⟩ := h
  exact ⟨cs, h1, h2⟩

/-- Rows of cells of these kinds. -/
def RowsOk (ks : List CK) (n : Nat) (vs : List Value) : Prop := CksOk (List.replicate n ks).flatten vs

/-- A slice of flat elements: nil, or a row of cells that stands in the world. -/
theorem arg_slice {P : Program} {T e : TypeId} {ks : List CK} {k : Nat} (ht : P.underlying T = some (.slice e)) (hk : kindsK P k e = some ks) (hc : P.cellsOf e = ks.length) (h0 : ks.length ≠ 0) {H : Type} {enc : TypeId × Value → H} {w : World} {base base' : Nat} {held : Bool} {v : Value} {d : DataW H} {ps : List MemPlace}
    (hv : Value.okWide P w .any base' T v) (h : DataW.Trod enc P w base (fun _ => true) held T v d ps) :
    v = .slice none 0 0 ∨ ∃ b o len cap vs, v = .slice (some ⟨b, o, none⟩) len cap ∧ b < w.heap.size ∧ len ≤ cap ∧ cap ≤ maxLen ∧ RowsOk ks cap vs ∧ ∀ (i : Nat) (x : Value), vs[i]? = some x → w.cell? ⟨b, o + i, none⟩ = some x := by
  obtain ⟨a, len, cap, rfl⟩ := okWide_slice ht hv
  obtain ⟨fuel, hf⟩ := h
  rcases open_slice ht hf with ⟨hcs, _⟩ | ⟨a', len', cap', m, n, D, Pl, hcs, _, hl, hm, hmm, _, hx⟩
  · left
    exact (List.cons.inj hcs).1
  · right
    obtain ⟨rfl, rfl, rfl⟩ := Value.slice.inj (List.cons.inj hcs).1
    rw [if_pos rfl] at hmm
    subst hmm
    have hspot : a'.spot = none ∧ a'.block < w.heap.size := by
      simp only [Value.okWide, ht, Cell.okWide, Cell.ok] at hv
      obtain ⟨_, _, _, h1, row, cells, h2, _⟩ := hv
      refine ⟨h1, ?_⟩
      unfold World.shape? at h2
      split at h2
      · rename_i hb
        exact (Array.getElem?_eq_some_iff.1 hb).1
      · cases h2
    obtain ⟨b, o, sp⟩ := a'
    obtain ⟨rfl, hb⟩ := hspot
    refine ⟨b, o, len, m, (List.range (m * ks.length)).map (fun i => (w.cell? ⟨b, o + i, none⟩).getD (.bool false)), rfl, hb, hl, hm, ?_, ?_⟩
    · refine rep_ok m _ (by simp) (fun i hi => ?_)
      obtain ⟨cs', h1, h2⟩ := hx i hi
      have h3 := kindsK_ok hk H enc w base _ held n _ _ h2
      obtain ⟨_, h4, h5⟩ := World.cells?_some h1
      have hle : i * ks.length + ks.length ≤ m * ks.length := by
        have := Nat.mul_le_mul_right ks.length (show i + 1 ≤ m from hi)
        rwa [Nat.succ_mul] at this
      have : ((List.map (fun i => (w.cell? ⟨b, o + i, none⟩).getD (.bool false)) (List.range (m * ks.length))).drop (i * ks.length)).take ks.length = cs' := by
        refine List.ext_getElem? (fun j => ?_)
        rw [hc] at h4 h5
        by_cases hj : j < ks.length
        · rw [List.getElem?_take_of_lt hj, List.getElem?_drop, List.getElem?_map, List.getElem?_range (by omega)]
          have h6 := h5 j hj
          rw [Deep.add_add] at h6
          have h7 : (⟨b, o, none⟩ : Addr).add (i * ks.length + j) = ⟨b, o + (i * ks.length + j), none⟩ := by
            unfold Addr.add
            split
            · rename_i hz; rw [hz]; rfl
            · rfl
          rw [h7] at h6
          rw [Option.map_some, h6, List.getElem?_eq_getElem (by omega)]
          rfl
        · rw [List.getElem?_eq_none (by simp; omega), List.getElem?_eq_none (by omega)]
      rw [this]
      exact h3
    · intro i x hi
      rw [List.getElem?_map] at hi
      obtain ⟨j, hj, rfl⟩ := Option.map_eq_some_iff.1 hi
      obtain ⟨hj1, rfl⟩ := List.getElem?_eq_some_iff.1 hj
      rw [List.getElem_range] at hj ⊢
      have hj2 : i < m * ks.length := by simpa using hj1
      have hpos : 0 < ks.length := by omega
      have hdm := Nat.div_add_mod i ks.length
      have hmod := Nat.mod_lt i hpos
      have hdiv : i / ks.length < m := Nat.div_lt_of_lt_mul (by rwa [Nat.mul_comm])
      obtain ⟨cs', h1, _⟩ := hx _ hdiv
      obtain ⟨_, h4, h5⟩ := World.cells?_some h1
      rw [hc] at h4 h5
      have h6 := h5 _ hmod
      rw [Deep.add_add] at h6
      have h7 : (⟨b, o, none⟩ : Addr).add (i / ks.length * ks.length + i % ks.length) = ⟨b, o + i, none⟩ := by
        unfold Addr.add
        rw [Nat.mul_comm, hdm]
        split
        · rename_i hz; rw [hz]; rfl
        · rfl
      rw [h7, List.getElem?_eq_getElem (by omega)] at h6
      rw [h6]
      rfl

/-! ### memory -/
def Held (m : Mem) : Prop := ∀ id b, m id = some b → b.own = false
theorem held_none : Held (fun _ => none) := fun _ _ h => by cases h
theorem held_upd {m : Mem} (h : Held m) (k : Nat) (cs : List Cell) : Held (upd m k (some ⟨cs, false⟩)) := by
  intro id b hb
  unfold upd at hb
  split at hb
  · cases hb; rfl
  · exact h id b hb

def atL (ρ : Loc) (n b o : Nat) : Loc := fun id => if id = n then (b, o) else ρ id

theorem atL_le {ρ : Loc} {n : Nat} {w : World} {b o : Nat} : Le ρ n w (atL ρ n b o) (n + 1) w :=
  ⟨by omega, fun id hi => by unfold atL; rw [if_neg (by omega)], fun _ h => h⟩

theorem rows_rel {ρ : Loc} {n : Nat} {w : World} {ks : List CK} {cap : Nat} {vs : List Value} (h : RowsOk ks cap vs) : ∀ (i : Nat) (x : Value), vs[i]? = some x → CRel ρ n w (.sc x) x := by
  intro i x hx
  have h1 : ∀ {ks : List CK} {vs : List Value}, CksOk ks vs → ∀ v ∈ vs, v.oneCell' = true := by
    intro ks vs h
    have hr : CRels ρ n w (vs.map .sc) vs := h.rel
    exact CRels.all_one _ _ hr
  exact ⟨rfl, h1 h x (List.mem_of_getElem? hx)⟩

/-- One row of cells more, held. -/
theorem addRow {ρ : Loc} {n : Nat} {w : World} {m : Mem} (hm : MRel ρ n w m) (hh : Held m) {b o cap : Nat} {ks : List CK} {vs : List Value} (hb : b < w.heap.size) (hr : RowsOk ks cap vs) (hc : ∀ (i : Nat) (x : Value), vs[i]? = some x → w.cell? ⟨b, o + i, none⟩ = some x) :
    MRel (atL ρ n b o) (n + 1) w (upd m n (some ⟨vs.map .sc, false⟩)) := by
  refine ⟨fun id bl h => ?_, fun id bl h => ?_, fun id bl h i c hi => ?_, fun id bl h ho => ?_, fun id bl h ho => ?_⟩
  · unfold upd at h
    split at h
    · omega
    · have := hm.lt id bl h; omega
  · unfold upd at h
    unfold atL
    split at h
    · rename_i he; rw [if_pos he]; exact hb
    · rename_i he; rw [if_neg he]; exact hm.blk id bl h
  · unfold upd at h
    split at h
    · rename_i he
      cases h
      subst he
      rw [List.getElem?_map] at hi
      obtain ⟨x, hx, rfl⟩ := Option.map_eq_some_iff.1 hi
      refine ⟨x, ?_, rows_rel hr i x hx⟩
      unfold atL
      rw [if_pos rfl]
      exact hc i x hx
    · rename_i he
      obtain ⟨v, h1, h2⟩ := hm.cells id bl h i c hi
      refine ⟨v, ?_, CRel.mono atL_le _ _ h2⟩
      unfold atL
      rw [if_neg he]
      exact h1
  · rw [held_upd hh n _ id bl h] at ho; cases ho
  · rw [held_upd hh n _ id bl h] at ho; cases ho

/-- The slice over such a row. -/
theorem addSl {ρ : Loc} {n : Nat} {w : World} {b o len cap sz : Nat} {vs : List Value} (hl : len ≤ cap) (hv : vs.length = cap * sz) (hc : ∀ (i : Nat) (x : Value), vs[i]? = some x → w.cell? ⟨b, o + i, none⟩ = some x) :
    RRel (atL ρ n b o) (n + 1) w (.one (.sl n 0 len none sz)) (.slice (some ⟨b, o, none⟩) len cap) := by
  have h0 : (atL ρ n b o) n = (b, o) := if_pos rfl
  refine ⟨by omega, o, cap, by rw [h0], fun _ => by rw [h0]; rfl, hl, (by intro c h; cases h), fun j hj => ?_⟩
  rw [h0]
  rw [hc j _ (List.getElem?_eq_getElem (by omega))]
  rfl

/- Arguments that are structs with slices in them, opened for the evaluator. Conditions: those that each theorem names. -/
open Go.RowKit Go.ChangeShapes Go.WideShapes Go.Deep
set_option linter.unusedVariables false

/-- What a cell holds that is a slice of flat elements. -/
def SlOk (w : World) (ks : List CK) (v : Value) : Prop :=
  v = .slice none 0 0 ∨ ∃ b o len cap vs, v = .slice (some ⟨b, o, none⟩) len cap ∧ b < w.heap.size ∧ len ≤ cap ∧ cap ≤ maxLen ∧ RowsOk ks cap vs ∧ ∀ (i : Nat) (x : Value), vs[i]? = some x → w.cell? ⟨b, o + i, none⟩ = some x

/-- A struct all of whose fields take one cell. -/
theorem arg_mix {P : Program} {T : TypeId} {fs : Array Field} {ts : List TypeId} (ht : P.underlying T = some (.struct fs)) (hts : P.cellTypes P.depth T = some ts) {H : Type} {enc : TypeId × Value → H} {w : World} {base base' : Nat} {held : Bool} {v : Value} {d : DataW H} {ps : List MemPlace}
    (hv : Value.okWide P w .any base' T v) (h : DataW.Trod enc P w base (fun _ => true) held T v d ps) :
    ∃ cs : List Value, v = .agg cs.toArray ∧ cs.length = P.cellsOf T ∧ ∀ (j : Nat) (f : Field) (c : Value), fs[j]? = some f → P.cellsOf f.type = 1 → (∀ u, ts[f.offset % ts.length]? = some u → u = f.type) → cs[f.offset]? = some c →
      Cell.okWide P w .any base' f.type c ∧ ∃ x fuel, DataW.trod enc P w base (fun _ => true) held fuel f.type [c] = some x := by
  simp only [Value.okWide, ht] at hv
  obtain ⟨cs, rfl, hsz, ts', h1, h2, h3⟩ := hv
  obtain rfl := Option.some.inj (hts.symm.trans h1)
  obtain ⟨fuel, hf⟩ := h
  have hf' : DataW.trod enc P w base (fun _ => true) held fuel T cs.toList = some (d, ps) := hf
  obtain ⟨xs, n, _, _, hl, hxs, hg⟩ := DataW.trod_struct ht hf'
  refine ⟨cs.toList, by simp, by simpa using hsz, fun j f c hj hc1 hu hc => ?_⟩
  obtain ⟨u, hu1, hu2⟩ := h3 f.offset c (by simpa using hc)
  have e := hu u hu1
  subst e
  refine ⟨hu2, ?_⟩
  have h4 := hg j f hj
  rw [hc1] at h4
  have h5 : (cs.toList.drop f.offset).take 1 = [c] := by
    have hlt := (List.getElem?_eq_some_iff.1 hc).1
    rw [List.drop_eq_getElem_cons hlt]
    have := (List.getElem?_eq_some_iff.1 hc).2
    simp [this]
  rw [h5] at h4
  have hjn : j < xs.length := by
    have := (Array.getElem?_eq_some_iff.1 hj).1
    omega
  rw [List.getElem?_eq_getElem hjn] at h4
  exact ⟨_, n, h4⟩

theorem mix_slice {P : Program} {T e : TypeId} {ks : List CK} {k : Nat} (ht : P.underlying T = some (.slice e)) (hk : kindsK P k e = some ks) (hc : P.cellsOf e = ks.length) (h0 : ks.length ≠ 0) {H : Type} {enc : TypeId × Value → H} {w : World} {base base' : Nat} {held : Bool} {c : Value}
    (h : Cell.okWide P w .any base' T c ∧ ∃ x fuel, DataW.trod enc P w base (fun _ => true) held fuel T [c] = some x) : SlOk w ks c := by
  obtain ⟨hv, ⟨d, ps⟩, fuel, hf⟩ := h
  have hv2 : Value.okWide P w .any base' T c := by simp only [Value.okWide, ht]; exact hv
  obtain ⟨a, len, cap, rfl⟩ := okWide_slice ht hv2
  exact arg_slice ht hk hc h0 hv2 ⟨fuel, hf⟩
theorem mix_int {P : Program} {T : TypeId} {k : IntKind} (ht : P.underlying T = some (.int k)) {H : Type} {enc : TypeId × Value → H} {w : World} {base base' : Nat} {held : Bool} {c : Value}
    (h : Cell.okWide P w .any base' T c ∧ ∃ x fuel, DataW.trod enc P w base (fun _ => true) held fuel T [c] = some x) : ∃ n, c = .int k n ∧ k.min ≤ n ∧ n ≤ k.max := by
  obtain ⟨hv, x, fuel, hf⟩ := h
  obtain ⟨n, e, _, hw⟩ := DataW.trod_int ht hf
  obtain rfl := (List.cons.inj e).1
  exact ⟨n, rfl, has_of_wf hw⟩
theorem mix_bool {P : Program} {T : TypeId} (ht : P.underlying T = some .bool) {H : Type} {enc : TypeId × Value → H} {w : World} {base base' : Nat} {held : Bool} {c : Value}
    (h : Cell.okWide P w .any base' T c ∧ ∃ x fuel, DataW.trod enc P w base (fun _ => true) held fuel T [c] = some x) : ∃ b, c = .bool b := by
  obtain ⟨hv, x, fuel, hf⟩ := h
  obtain ⟨b, e, _⟩ := DataW.trod_bool ht hf
  obtain rfl := (List.cons.inj e).1
  exact ⟨b, rfl⟩

/-- A slice cell, laid into the evaluator's memory under the number n. -/
theorem mix_lay {ρ : Loc} {n : Nat} {w : World} {m : Mem} (hm : MRel ρ n w m) (hh : Held m) {ks : List CK} {v : Value} (h : SlOk w ks v) :
    ∃ (ρ' : Loc) (n' : Nat) (m' : Mem) (c : Cell), MRel ρ' n' w m' ∧ Held m' ∧ Le ρ n w ρ' n' w ∧ CRel ρ' n' w c v ∧ (∀ id, id < n → m' id = m id) ∧ n' = n + 1 ∧
      ((c = .sc (.slice none 0 0) ∧ v = .slice none 0 0) ∨ ∃ len cap vs, c = .sl n 0 len none ks.length ∧ len ≤ cap ∧ cap ≤ maxLen ∧ RowsOk ks cap vs ∧ m' n = some ⟨vs.map .sc, false⟩) := by
  rcases h with rfl | ⟨b, o, len, cap, vs, rfl, hb, hl, hm2, hr, hc⟩
  · have hmm : MRel ρ (n + 1) w m := by
      refine ⟨fun id bl h => by have := hm.lt id bl h; omega, hm.blk, fun id bl h i c hi => ?_, hm.soft, hm.apart⟩
      obtain ⟨x, h1, h2⟩ := hm.cells id bl h i c hi
      exact ⟨x, h1, CRel.mono ⟨by omega, fun _ _ => rfl, fun _ h => h⟩ _ _ h2⟩
    exact ⟨ρ, n + 1, m, .sc (.slice none 0 0), hmm, hh, ⟨by omega, fun _ _ => rfl, fun _ h => h⟩, by simp [CRel, Value.oneCell'], fun _ _ => rfl, rfl, Or.inl ⟨rfl, rfl⟩⟩
  · have hlen : vs.length = cap * ks.length := by
      have := hr.len
      simpa using this
    have hs := addSl (ρ := ρ) (n := n) (w := w) (len := len) (sz := ks.length) hl hlen hc
    exact ⟨atL ρ n b o, n + 1, _, .sl n 0 len none ks.length, addRow hm hh hb hr hc, held_upd hh n _, atL_le, hs, fun id hid => upd_ne _ _ (by omega), rfl, Or.inr ⟨len, cap, vs, rfl, hl, hm2, hr, upd_same _ _ _⟩⟩

/- Styles as_ arguments; the row StyleChecks. Conditions: those that each theorem names. -/
open Go Go.Proofs
open Go.RowKit Go.ChangeShapes Go.WideShapes Go.Deep
set_option linter.unusedVariables false

/-- A struct, by its cells and by its fields. -/
theorem arg_fields {P : Program} {T : TypeId} {fs : Array Field} {ts : List TypeId} (ht : P.underlying T = some (.struct fs)) (hts : P.cellTypes P.depth T = some ts) {H : Type} {enc : TypeId × Value → H} {w : World} {base base' : Nat} {held : Bool} {v : Value} {d : DataW H} {ps : List MemPlace}
    (hv : Value.okWide P w .any base' T v) (h : DataW.Trod enc P w base (fun _ => true) held T v d ps) :
    ∃ cs : List Value, v = .agg cs.toArray ∧ cs.length = P.cellsOf T ∧ (∀ (i : Nat) (c : Value), cs[i]? = some c → ∃ u, ts[i % ts.length]? = some u ∧ Cell.okWide P w .any base' u c) ∧
      ∀ (j : Nat) (f : Field) (z : Nat) (l : List Value), fs[j]? = some f → P.cellsOf f.type = z → (cs.drop f.offset).take z = l → ∃ x n, DataW.trod enc P w base (fun _ => true) held n f.type l = some x := by
  simp only [Value.okWide, ht] at hv
  obtain ⟨cs, rfl, hsz, ts', h1, h2, h3⟩ := hv
  obtain rfl := Option.some.inj (hts.symm.trans h1)
  obtain ⟨fuel, hf⟩ := h
  have hf' : DataW.trod enc P w base (fun _ => true) held fuel T cs.toList = some (d, ps) := hf
  obtain ⟨xs, n, _, _, hl, hxs, hg⟩ := DataW.trod_struct ht hf'
  refine ⟨cs.toList, by simp, by simpa using hsz, fun i c hc => h3 i c (by simpa using hc), fun j f z l hj hz hl2 => ?_⟩
  subst hz
  subst hl2
  have h4 := hg j f hj
  have hjn : j < xs.length := by
    have := (Array.getElem?_eq_some_iff.1 hj).1
    omega
  rw [List.getElem?_eq_getElem hjn] at h4
  exact ⟨_, n, h4⟩
/-- A struct in a struct. -/
theorem sub_fields {P : Program} {T : TypeId} {fs : Array Field} (ht : P.underlying T = some (.struct fs)) {H : Type} {enc : TypeId × Value → H} {w : World} {base : Nat} {held : Bool} {cs : List Value} {n : Nat} {x : DataW H × List MemPlace}
    (h : DataW.trod enc P w base (fun _ => true) held n T cs = some x) : ∀ (j : Nat) (f : Field) (z : Nat) (l : List Value), fs[j]? = some f → P.cellsOf f.type = z → (cs.drop f.offset).take z = l → ∃ x n, DataW.trod enc P w base (fun _ => true) held n f.type l = some x := by
  obtain ⟨d, ps⟩ := x
  obtain ⟨xs, n, _, _, hl, hxs, hg⟩ := DataW.trod_struct ht h
  intro j f z l hj hz hl2
  subst hz
  subst hl2
  have h4 := hg j f hj
  have hjn : j < xs.length := by
    have := (Array.getElem?_eq_some_iff.1 hj).1
    omega
  rw [List.getElem?_eq_getElem hjn] at h4
  exact ⟨_, n, h4⟩
theorem ints_of {cap : Nat} {vs : List Value} (h : RowsOk [.int .i64] cap vs) : ∃ l : List Int, l.length = cap ∧ vs.map .sc = l.flatMap encI ∧ ∀ x ∈ l, -9223372036854775808 ≤ x ∧ x ≤ 9223372036854775807 := by
  unfold RowsOk at h
  induction cap generalizing vs with
  | zero => simp only [List.replicate_zero, List.flatten_nil, CksOk] at h; subst h; exact ⟨[], rfl, rfl, by simp⟩
  | succ k ih =>
    rw [List.replicate_succ, List.flatten_cons] at h
    simp only [List.cons_append, List.nil_append, CksOk] at h
    obtain ⟨n, r, rfl, h1, h2⟩ := h
    obtain ⟨l, e1, e2, e3⟩ := ih h2
    simp only [IntKind.min, IntKind.max, IntKind.signed, IntKind.bits] at h1
    refine ⟨n :: l, by simp [e1], by simp [e2], fun x hx => ?_⟩
    rcases List.mem_cons.1 hx with rfl | hx
    · simp at h1; omega
    · exact e3 x hx
/-- A slice of ints, laid: it is read. -/
theorem ints_rl {m : Mem} {n : Nat} {c : Cell} {v : Value} (h : (c = .sc (.slice none 0 0) ∧ v = .slice none 0 0) ∨ ∃ len cap vs, c = .sl n 0 len none [CK.int .i64].length ∧ len ≤ cap ∧ cap ≤ maxLen ∧ RowsOk [.int .i64] cap vs ∧ m n = some ⟨vs.map .sc, false⟩) :
    ∃ l : List Int, RIn m (n + 1) (.one c) l ∧ ∀ x ∈ l, -9223372036854775808 ≤ x ∧ x ≤ 9223372036854775807 := by
  rcases h with ⟨rfl, _⟩ | ⟨len, cap, vs, rfl, h1, _, h2, h3⟩
  · exact ⟨[], Or.inl ⟨rfl, rfl⟩, by simp⟩
  · obtain ⟨l, e1, e2, e3⟩ := ints_of h2
    have hlen : (l.take len).length = len := by rw [List.length_take]; omega
    refine ⟨l.take len, Or.inr ⟨n, 0, none, by rw [hlen]; rfl, by omega, ?_⟩, fun x hx => e3 x (List.mem_of_mem_take hx)⟩
    rw [rd_of h3, hlen, e2]
    have e4 : (l.flatMap encI).length = cap := by rw [flatMap_len encI 1 ci1, e1, Nat.mul_one]
    unfold rdB
    rw [if_pos (by rw [e4]; omega), List.drop_zero, Nat.mul_one]
    congr 1
    have : ∀ (l : List Int) (k : Nat), (l.flatMap encI).take k = (l.take k).flatMap encI := by
      intro l
      induction l with
      | nil => intro k; simp
      | cons x l ih =>
        intro k
        cases k with
        | zero => simp
        | succ k => simp [ih k]
    exact this l len
theorem stops_of {cap : Nat} {vs : List Value} (h : RowsOk [.int .i64, .int .u8, .int .u8, .int .u8, .int .u8] cap vs) : ∃ l : List Stp, l.length = cap ∧ vs.map .sc = l.flatMap Stp.cs ∧ ∀ x ∈ l, x.by := by
  unfold RowsOk at h
  induction cap generalizing vs with
  | zero => simp only [List.replicate_zero, List.flatten_nil, CksOk] at h; subst h; exact ⟨[], rfl, rfl, by simp⟩
  | succ k ih =>
    rw [List.replicate_succ, List.flatten_cons] at h
    simp only [List.cons_append, List.nil_append, CksOk] at h
    obtain ⟨n, r, rfl, h1, c0, r0, rfl, h2, c1, r1, rfl, h3, c2, r2, rfl, h4, c3, r3, rfl, h5, h6⟩ := h
    obtain ⟨l, e1, e2, e3⟩ := ih h6
    simp only [IntKind.min, IntKind.max, IntKind.signed, IntKind.bits] at h2 h3 h4 h5
    simp at h2 h3 h4 h5
    refine ⟨⟨n, c0, c1, c2, c3⟩ :: l, by simp [e1], by simp [e2], fun x hx => ?_⟩
    rcases List.mem_cons.1 hx with rfl | hx
    · unfold Stp.by byteB
      simp only
      omega
    · exact e3 x hx
theorem stops_rl {m : Mem} {n : Nat} {c : Cell} {v : Value} (h : (c = .sc (.slice none 0 0) ∧ v = .slice none 0 0) ∨ ∃ len cap vs, c = .sl n 0 len none [CK.int .i64, CK.int .u8, CK.int .u8, CK.int .u8, CK.int .u8].length ∧ len ≤ cap ∧ cap ≤ maxLen ∧ RowsOk [.int .i64, .int .u8, .int .u8, .int .u8, .int .u8] cap vs ∧ m n = some ⟨vs.map .sc, false⟩) :
    ∃ l : List Stp, RSt m (n + 1) (.one c) l ∧ ∀ x ∈ l, x.by := by
  rcases h with ⟨rfl, _⟩ | ⟨len, cap, vs, rfl, h1, _, h2, h3⟩
  · exact ⟨[], Or.inl ⟨rfl, rfl⟩, by simp⟩
  · obtain ⟨l, e1, e2, e3⟩ := stops_of h2
    have hlen : (l.take len).length = len := by rw [List.length_take]; omega
    refine ⟨l.take len, Or.inr ⟨n, 0, none, by rw [hlen]; rfl, by omega, ?_⟩, fun x hx => e3 x (List.mem_of_mem_take hx)⟩
    rw [rd_of h3, hlen, e2]
    have e4 : (l.flatMap Stp.cs).length = cap * 5 := by rw [flatMap_len Stp.cs 5 cs5, e1]
    unfold rdB
    rw [if_pos (by rw [e4]; omega), List.drop_zero]
    congr 1
    have : ∀ (l : List Stp) (k : Nat), (l.flatMap Stp.cs).take (k * 5) = (l.take k).flatMap Stp.cs := by
      intro l
      induction l with
      | nil => intro k; simp
      | cons x l ih =>
        intro k
        cases k with
        | zero => simp
        | succ k =>
          rw [show (k + 1) * 5 = k * 5 + 1 + 1 + 1 + 1 + 1 by omega]
          simp [ih k]
    exact this l len
/-- The cells of a style as_ values. -/
abbrev Sty.vs (s : Sty) (vf vp vd : Value) : List Value := [.int .i64 s.fill.k, .int .u8 s.fill.c0, .int .u8 s.fill.c1, .int .u8 s.fill.c2, .int .u8 s.fill.c3, .int .i64 s.fill.fx, .int .i64 s.fill.fy, .int .i64 s.fill.tx, .int .i64 s.fill.ty, vf,
  .int .i64 s.pen.k, .int .u8 s.pen.c0, .int .u8 s.pen.c1, .int .u8 s.pen.c2, .int .u8 s.pen.c3, .int .i64 s.pen.fx, .int .i64 s.pen.fy, .int .i64 s.pen.tx, .int .i64 s.pen.ty, vp, .int .i64 s.rule, .int .i64 s.half, .int .i64 s.cap, vd, .int .i64 s.ph, .int .i64 s.op, .int .i64 s.mode]
abbrev stK : List CK := [.int .i64, .int .u8, .int .u8, .int .u8, .int .u8]
def isSty (w : World) (v : Value) : Prop := ∃ (s : Sty) (vf vp vd : Value), v = .agg (s.vs vf vp vd).toArray ∧ (s.fill.by ∧ s.pen.by) ∧ SlOk w stK vf ∧ SlOk w stK vp ∧ SlOk w [.int .i64] vd
theorem pai_open {H : Type} {enc : TypeId × Value → H} {w : World} {base : Nat} {held : Bool} {n : Nat} {x : DataW H × List MemPlace} {a0 a1 a2 a3 a4 a5 a6 a7 a8 a9 : Value}
    (h : DataW.trod enc Try.prog w base (fun _ => true) held n 28 [a0, a1, a2, a3, a4, a5, a6, a7, a8, a9] = some x) :
    ∃ p : Pai, p.by ∧ (a0 = .int .i64 p.k ∧ a1 = .int .u8 p.c0 ∧ a2 = .int .u8 p.c1 ∧ a3 = .int .u8 p.c2 ∧ a4 = .int .u8 p.c3 ∧ a5 = .int .i64 p.fx ∧ a6 = .int .i64 p.fy ∧ a7 = .int .i64 p.tx ∧ a8 = .int .i64 p.ty) ∧
      ∃ y k, DataW.trod enc Try.prog w base (fun _ => true) held k 26 [a9] = some y := by
  have s0 := sub_fields Try.underlying28 h
  obtain ⟨u0, k0, t0⟩ := s0 0 _ 1 [a0] rfl (by kernel_rfl) rfl
  obtain ⟨u1, k1, t1⟩ := s0 1 _ 4 [a1, a2, a3, a4] rfl (by kernel_rfl) rfl
  obtain ⟨u2, k2, t2⟩ := s0 2 _ 2 [a5, a6] rfl (by kernel_rfl) rfl
  obtain ⟨u3, k3, t3⟩ := s0 3 _ 2 [a7, a8] rfl (by kernel_rfl) rfl
  obtain ⟨u4, k4, t4⟩ := s0 4 _ 1 [a9] rfl (by kernel_rfl) rfl
  have c0 := kindsK_ok (P := Try.prog) (k := 8) (ks := [.int .i64]) (by kernel_rfl) _ _ _ _ _ _ _ _ _ t0
  have c1 := kindsK_ok (P := Try.prog) (k := 8) (ks := [.int .u8, .int .u8, .int .u8, .int .u8]) (by kernel_rfl) _ _ _ _ _ _ _ _ _ t1
  have c2 := kindsK_ok (P := Try.prog) (k := 8) (ks := [.int .i64, .int .i64]) (by kernel_rfl) _ _ _ _ _ _ _ _ _ t2
  have c3 := kindsK_ok (P := Try.prog) (k := 8) (ks := [.int .i64, .int .i64]) (by kernel_rfl) _ _ _ _ _ _ _ _ _ t3
  simp only [CksOk] at c0 c1 c2 c3
  obtain ⟨q0, _, e0, _, _⟩ := c0
  obtain ⟨q1, _, e1, b1, q2, _, rfl, b2, q3, _, rfl, b3, q4, _, rfl, b4, rfl⟩ := c1
  obtain ⟨q5, _, e5, _, q6, _, rfl, _, rfl⟩ := c2
  obtain ⟨q7, _, e7, _, q8, _, rfl, _, rfl⟩ := c3
  simp only [List.cons.injEq, and_true] at e0 e1 e5 e7
  simp only [IntKind.min, IntKind.max, IntKind.signed, IntKind.bits] at b1 b2 b3 b4
  simp at b1 b2 b3 b4
  refine ⟨⟨q0, q1, q2, q3, q4, q5, q6, q7, q8, .sc (.slice none 0 0)⟩, ?_, ⟨e0.1, e1.1, e1.2.1, e1.2.2.1, e1.2.2.2, e5.1, e5.2, e7.1, e7.2⟩, u4, k4, t4⟩
  unfold Pai.by byteB
  simp only
  omega
set_option maxRecDepth 100000 in
theorem open53 {H : Type} {enc : TypeId × Value → H} {w : World} {base base' : Nat} {held : Bool} {v : Value} {d : DataW H} {ps : List MemPlace} (hv : Value.okWide Try.prog w .any base' 53 v) (h : DataW.Trod enc Try.prog w base (fun _ => true) held 53 v d ps) : isSty w v := by
  obtain ⟨cs, rfl, hl, hc, hf⟩ := arg_fields (ts := [3, 5, 5, 5, 5, 3, 3, 3, 3, 26, 3, 5, 5, 5, 5, 3, 3, 3, 3, 26, 3, 3, 3, 49, 3, 3, 3]) Try.underlying53 (by kernel_rfl) hv h
  rw [show Try.prog.cellsOf 53 = 27 by kernel_rfl] at hl
  match cs, hl with
  | [a0, a1, a2, a3, a4, a5, a6, a7, a8, a9, a10, a11, a12, a13, a14, a15, a16, a17, a18, a19, a20, a21, a22, a23, a24, a25, a26], _ =>
    obtain ⟨f0, n0, g0⟩ := hf 0 _ 10 [a0, a1, a2, a3, a4, a5, a6, a7, a8, a9] rfl (by kernel_rfl) rfl
    obtain ⟨f1, n1, g1⟩ := hf 1 _ 10 [a10, a11, a12, a13, a14, a15, a16, a17, a18, a19] rfl (by kernel_rfl) rfl
    obtain ⟨f2, n2, g2⟩ := hf 2 _ 1 [a20] rfl (by kernel_rfl) rfl
    obtain ⟨f3, n3, g3⟩ := hf 3 _ 1 [a21] rfl (by kernel_rfl) rfl
    obtain ⟨f4, n4, g4⟩ := hf 4 _ 1 [a22] rfl (by kernel_rfl) rfl
    obtain ⟨f5, n5, g5⟩ := hf 5 _ 2 [a23, a24] rfl (by kernel_rfl) rfl
    obtain ⟨f6, n6, g6⟩ := hf 6 _ 1 [a25] rfl (by kernel_rfl) rfl
    obtain ⟨f7, n7, g7⟩ := hf 7 _ 1 [a26] rfl (by kernel_rfl) rfl
    have s5 := sub_fields Try.underlying51 g5
    obtain ⟨u0, k0, t0⟩ := s5 0 _ 1 [a23] rfl (by kernel_rfl) rfl
    obtain ⟨u1, k1, t1⟩ := s5 1 _ 1 [a24] rfl (by kernel_rfl) rfl
    obtain ⟨p, hp, ⟨rfl, rfl, rfl, rfl, rfl, rfl, rfl, rfl, rfl⟩, y1, z1, w1⟩ := pai_open g0
    obtain ⟨q, hq, ⟨rfl, rfl, rfl, rfl, rfl, rfl, rfl, rfl, rfl⟩, y2, z2, w2⟩ := pai_open g1
    obtain ⟨v0, hv0, hw0⟩ := hc 9 a9 rfl
    obtain rfl : (26 : Nat) = v0 := Option.some.inj hv0
    obtain ⟨v1, hv1, hw1⟩ := hc 19 a19 rfl
    obtain rfl : (26 : Nat) = v1 := Option.some.inj hv1
    obtain ⟨v2, hv2, hw2⟩ := hc 23 a23 rfl
    obtain rfl : (49 : Nat) = v2 := Option.some.inj hv2
    have sf : SlOk w stK a9 := mix_slice (k := 8) Try.underlying26 (by kernel_rfl) (by kernel_rfl) (by decide) ⟨hw0, y1, z1, w1⟩
    have sp : SlOk w stK a19 := mix_slice (k := 8) Try.underlying26 (by kernel_rfl) (by kernel_rfl) (by decide) ⟨hw1, y2, z2, w2⟩
    have sd : SlOk w [.int .i64] a23 := mix_slice (k := 8) Try.underlying49 (by kernel_rfl) (by kernel_rfl) (by decide) ⟨hw2, u0, k0, t0⟩
    have int : ∀ (a : Value) (x : DataW H × List MemPlace) (k : Nat), DataW.trod enc Try.prog w base (fun _ => true) held k 3 [a] = some x → ∃ z, a = .int .i64 z := fun a x k hk => by
      obtain ⟨z, e, _, _⟩ := DataW.trod_int Try.underlying3 hk
      exact ⟨z, (List.cons.inj e).1⟩
    obtain ⟨i1, rfl⟩ := int _ _ _ g2
    obtain ⟨i2, rfl⟩ := int _ _ _ g3
    obtain ⟨i3, rfl⟩ := int _ _ _ g4
    obtain ⟨i4, rfl⟩ := int _ _ _ t1
    obtain ⟨i5, rfl⟩ := int _ _ _ g6
    obtain ⟨i6, rfl⟩ := int _ _ _ g7
    exact ⟨⟨p, q, i1, i2, i3, .sc (.slice none 0 0), i4, i5, i6⟩, a9, a19, a23, rfl, ⟨hp, hq⟩, sf, sp, sd⟩
/-- A style, laid. -/
theorem sty_lay {W : World} {v : Value} (h : isSty W v) : ∃ (s : Sty) (lf lp : List Stp) (ld : List Int) (ρ : Loc) (m : Mem), MRel ρ 3 W m ∧ Held m ∧ SRel m 3 s lf lp ld ∧ (s.fill.by ∧ s.pen.by) ∧ (∀ x ∈ lf, x.by) ∧ (∀ x ∈ lp, x.by) ∧ RRel ρ 3 W (.agg s.cs) v := by
  obtain ⟨s, vf, vp, vd, rfl, ⟨hf, hp⟩, sf, sp, sd⟩ := h
  obtain ⟨ρ1, n1, m1, cf, hm1, hh1, le1, hc1, old1, rfl, k1⟩ := mix_lay (noMem (fun _ => (0, 0)) 0 W) held_none sf
  obtain ⟨ρ2, n2, m2, cp, hm2, hh2, le2, hc2, old2, rfl, k2⟩ := mix_lay hm1 hh1 sp
  obtain ⟨ρ3, n3, m3, cd, hm3, hh3, le3, hc3, old3, rfl, k3⟩ := mix_lay hm2 hh2 sd
  obtain ⟨lf, r1, b1⟩ := stops_rl k1
  obtain ⟨lp, r2, b2⟩ := stops_rl k2
  obtain ⟨ld, r3, _⟩ := ints_rl k3
  have hf' : (Pai.mk s.fill.k s.fill.c0 s.fill.c1 s.fill.c2 s.fill.c3 s.fill.fx s.fill.fy s.fill.tx s.fill.ty cf).by := hf
  have hp' : (Pai.mk s.pen.k s.pen.c0 s.pen.c1 s.pen.c2 s.pen.c3 s.pen.fx s.pen.fy s.pen.tx s.pen.ty cp).by := hp
  have x1 := CRel.mono le3 _ _ (CRel.mono le2 _ _ hc1)
  have x2 := CRel.mono le3 _ _ hc2
  refine ⟨⟨⟨s.fill.k, s.fill.c0, s.fill.c1, s.fill.c2, s.fill.c3, s.fill.fx, s.fill.fy, s.fill.tx, s.fill.ty, cf⟩, ⟨s.pen.k, s.pen.c0, s.pen.c1, s.pen.c2, s.pen.c3, s.pen.fx, s.pen.fy, s.pen.tx, s.pen.ty, cp⟩, s.rule, s.half, s.cap, cd, s.ph, s.op, s.mode⟩, lf, lp, ld, ρ3, m3, hm3, hh3,
    ⟨r1.keep (by omega) (fun id hid => by rw [old3 id (by omega), old2 id (by omega)]), r2.keep (by omega) (fun id hid => by rw [old3 id (by omega)]), r3⟩, ⟨hf', hp'⟩, b1, b2, _, rfl, ?_⟩
  refine ⟨_, _, rfl, ⟨rfl, rfl⟩, _, _, rfl, ⟨rfl, rfl⟩, _, _, rfl, ⟨rfl, rfl⟩, _, _, rfl, ⟨rfl, rfl⟩, _, _, rfl, ⟨rfl, rfl⟩, _, _, rfl, ⟨rfl, rfl⟩, _, _, rfl, ⟨rfl, rfl⟩, _, _, rfl, ⟨rfl, rfl⟩, _, _, rfl, ⟨rfl, rfl⟩, _, _, rfl, x1,
    _, _, rfl, ⟨rfl, rfl⟩, _, _, rfl, ⟨rfl, rfl⟩, _, _, rfl, ⟨rfl, rfl⟩, _, _, rfl, ⟨rfl, rfl⟩, _, _, rfl, ⟨rfl, rfl⟩, _, _, rfl, ⟨rfl, rfl⟩, _, _, rfl, ⟨rfl, rfl⟩, _, _, rfl, ⟨rfl, rfl⟩, _, _, rfl, ⟨rfl, rfl⟩, _, _, rfl, x2,
    _, _, rfl, ⟨rfl, rfl⟩, _, _, rfl, ⟨rfl, rfl⟩, _, _, rfl, ⟨rfl, rfl⟩, _, _, rfl, hc3, _, _, rfl, ⟨rfl, rfl⟩, _, _, rfl, ⟨rfl, rfl⟩, _, _, rfl, ⟨rfl, rfl⟩, rfl⟩
theorem rowL6 (hmix : Try.prog.follows .mixedOrders = true) (W : World) (v : Value) (h : isSty W v) :
    Calls Try.prog 6 #[v] W (fun e w' => e = .returned (.bool true) ∧ Go.RowKit.Below W.heap.size W w') := by
  obtain ⟨s, lf, lp, ld, ρ, m, hm, hh, hS, ⟨hf, hp⟩, b1, b2, hr⟩ := sty_lay h
  exact law_calls (ng := 0) (ρ := ρ) (n := 3) hmix TA_ok (law6 s lf lp ld m 3 hS hf hp b1 b2) hm (fun _ h => by omega) ⟨_, _, rfl, hr, rfl⟩ hh

end Go.Proofs.Ytffhhgcgnillaaa.Sy
