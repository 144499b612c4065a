/- The law PathBack walked. Conditions: those that each theorem names. -/
import Derived.Test.YtpleidpbapgmiaaDoorPaO
namespace Go.Proofs.YtpleidpbapgmiaaDoor.Sy
open Go Go.Proofs
set_option linter.unusedSimpArgs false
set_option linter.unusedVariables false
set_option maxRecDepth 20000
attribute [local go_sem] XK_seq XK_block XK_skip XK_exit XK_ret XK_cond XK_reg XK_dreg XK_ureg KN_seq KN_blk KN_lp KN_chk KN_chku KN_top KN_fin KX_seq KX_lp KX_blk KX_chk KX_top KR_seq KR_blk KR_lp KR_chk KR_top KR_fin FK_true FK_false RK_nil RK_mv RK_pick RK_alloc RK_box RK_build RK_bslice RK_load1 RK_loadA RK_store RK_nilchk RK_bin RK_beq RK_eqv RK_eqnil RK_un RK_conv RK_mkfn RK_mkslice RK_slS RK_slA RK_fadr RK_fld RK_iadrA RK_iadrS RK_idxA RK_ext RK_lenC RK_cap RK_app RK_appz RK_cpy RK_mn RK_mx RK_len RK_carry RK_clr carryR um0 um1 ThenK_some RK_guard GK_tt GK_ff GK_tf GK_ft GK_none QK_some RK_callQ RK_callZ RK_callT TK_some VK_clo RK_callV
  evalOp evO evOs upd_at unfrz_at putE_some putE_none boolOf_b boolOf_tup Option.map_some evRes pack_one pack_two pack_three pack_none List.getD_cons_zero List.getD_cons_succ getD_nil
  Option.some.injEq exists_eq_left' Reg.cs? fillC setL List.set_cons_zero List.set_cons_succ List.length_cons List.length_nil rd_upd rd_updn rdB wr List.drop_zero List.drop_succ_cons List.take_succ_cons List.take_zero List.getElem?_cons_zero List.getElem?_cons_succ
  ix Int.toNat_zero lenO_sl lenO_nil nadd na_eq na_eq' na_lt na_ee na_ll na_ne na_ne' na_tt
attribute [local go_sem] Reg.flat_one Reg.flat_agg Reg.flat_tup flats_nil flats_cons Cell.flat_sc Cell.flat_ptr List.all_cons List.all_nil disOk safeOk safeR decide_eq_true_eq decide_eq_false_iff_not
  List.map_cons List.map_nil List.cons_append List.nil_append List.append_nil evalOp.capsOf Bool.false_bne Bool.bne_false Bool.true_bne Bool.bne_true bne_self_eq_false beq_self_eq_true Bool.not_not Bool.false_and Bool.and_false Bool.true_or Bool.or_true beq_iff_eq eqCells
  Bool.true_beq Bool.false_beq Bool.not_eq_true' Bool.not_eq_eq_eq_not Bool.not_eq_false' and_false false_and frz_at idOf noId Option.isSome_some Bool.and_eq_true
attribute [local go_sem] wr_eq bV_add bV_sub bV_mul bV_eql bV_neq bV_lss bV_leq bV_gtr bV_geq bV_quo bV_rem bV_shr bV_shl uV_not uV_neg wrapU bits_and bits_or bits_xor IntKind.bits Nat.min_eq_left Nat.min_eq_right Nat.min_self
attribute [local go_sem] bne_iff_ne Int.cast_ofNat_Int Nat.zero_add Nat.add_zero and_self and_true true_and ne_eq not_false_eq_true not_true_eq_false decide_true decide_false Bool.false_eq_true Bool.not_true Bool.not_false Bool.true_and Bool.and_true Bool.or_false Bool.false_or Bool.and_self

theorem v_EqT {r r2 : Reg} {l : List Sg} {m : Mem} {n : Nat} (hr : RSg m n r l) (hr2 : RSg m n r2 l) (hl : l.length < 4294967296) : callF TA 41 [r, r2] m n = some (RB true) := by
  refine callF_of (Fn_ofK (fn := F41) rfl (by simp [F41]) ?_)
  have hlen := hr.len
  have hlen2 := hr2.len
  try simp only [r41_0, r41_1, r41_2, r41_3, r41_4, r41_5, r41_6, r41_7, r41_8, r41_9, c41, F41, hlen, hlen2, go_sem, Int.reduceTMod, Int.reduceTDiv, Int.reduceDiv, Int.reduceMod, Int.reduceAdd, Int.reduceSub, Int.reduceMul, Int.reduceNeg, Int.reducePow, Int.reduceEq, ↓reduceIte, Nat.reduceEqDiff, Nat.reduceAdd, Nat.reduceMul, Nat.reduceLeDiff, Nat.reduceSub, Nat.reduceLT, Int.reduceToNat, Int.reduceLT, Int.reduceLE, reduceCtorEq]
  repeat' ((first | refine FK_split (fun h_ => ?_) (fun h_ => ?_) | refine GK_split (fun h_ => ?_) (fun h_ => ?_) | refine ite_both (fun h_ => ?_) (fun h_ => ?_)) <;> (try simp only [decide_eq_true_eq, decide_eq_false_iff_not, Bool.not_true, Bool.not_false, Bool.not_eq_true', Bool.not_eq_false', Bool.not_eq_eq_eq_not, Decidable.not_not] at h_) <;> (try simp only [r41_0, r41_1, r41_2, r41_3, r41_4, r41_5, r41_6, r41_7, r41_8, r41_9, c41, F41, hlen, hlen2, h_, go_sem, Int.reduceTMod, Int.reduceTDiv, Int.reduceDiv, Int.reduceMod, Int.reduceAdd, Int.reduceSub, Int.reduceMul, Int.reduceNeg, Int.reducePow, Int.reduceEq, ↓reduceIte, Nat.reduceEqDiff, Nat.reduceAdd, Nat.reduceMul, Nat.reduceLeDiff, Nat.reduceSub, Nat.reduceLT, Int.reduceToNat, Int.reduceLT, Int.reduceLE, reduceCtorEq]))
  refine XK_iter (inv := fun i s => s.e 13 = RI i ∧ s.e 12 = RI l.length ∧ s.e 0 = r ∧ s.e 1 = r2 ∧ s.m = m ∧ s.n = n) l.length
    (fun L _ => ⟨fun i hi s hs next => ?_, fun s hs => ?_⟩) 0 (by omega) _ ⟨?_, ?_, ?_, ?_, rfl, rfl⟩
  · obtain ⟨e, M, N⟩ := s
    obtain ⟨q13, q12, q0, q1, qm, qn⟩ := hs
    simp only at q13 q12 q0 q1 qm qn
    subst qm qn
    have hp : l[i]? = some l[i] := List.getElem?_eq_getElem hi
    obtain ⟨id, off, cap, hr1, hid, hrd⟩ := hr.at cs7 hp
    obtain ⟨id2, off2, cap2, hr3, hid2, hrd2⟩ := hr2.at cs7 hp
    generalize l[i] = p at *
    have c2 : ((i : Int) < (l.length : Int)) = True := eq_true (by omega)
    have c3 : (0 ≤ (i : Int)) = True := eq_true (by omega)
    have c7 : IntKind.i64.wrap ((i : Int) + 1) = ((i + 1 : Nat) : Int) := wr_nat (by omega)
    have q0' := q0
    have q1' := q1
    rw [hr1] at q0'
    rw [hr3] at q1'
    try simp only [r41_0, r41_1, r41_2, r41_3, r41_4, r41_5, r41_6, r41_7, r41_8, r41_9, c41, F41, l41_0, q13, q12, q0', q1', c2, c3, c7, hrd, hrd2, Int.toNat_natCast, go_sem, Int.reduceTMod, Int.reduceTDiv, Int.reduceDiv, Int.reduceMod, Int.reduceAdd, Int.reduceSub, Int.reduceMul, Int.reduceNeg, Int.reducePow, Int.reduceEq, ↓reduceIte, Nat.reduceEqDiff, Nat.reduceAdd, Nat.reduceMul, Nat.reduceLeDiff, Nat.reduceSub, Nat.reduceLT, Int.reduceToNat, Int.reduceLT, Int.reduceLE, reduceCtorEq]
    repeat' ((first | refine FK_split (fun h_ => ?_) (fun h_ => ?_) | refine GK_split (fun h_ => ?_) (fun h_ => ?_) | refine ite_both (fun h_ => ?_) (fun h_ => ?_)) <;> (try simp only [decide_eq_true_eq, decide_eq_false_iff_not, Bool.not_true, Bool.not_false, Bool.not_eq_true', Bool.not_eq_false', Bool.not_eq_eq_eq_not, Decidable.not_not] at h_) <;> (try simp only [r41_0, r41_1, r41_2, r41_3, r41_4, r41_5, r41_6, r41_7, r41_8, r41_9, c41, F41, l41_0, q13, q12, q0', q1', c2, c3, c7, hrd, hrd2, Int.toNat_natCast, h_, go_sem, Int.reduceTMod, Int.reduceTDiv, Int.reduceDiv, Int.reduceMod, Int.reduceAdd, Int.reduceSub, Int.reduceMul, Int.reduceNeg, Int.reducePow, Int.reduceEq, ↓reduceIte, Nat.reduceEqDiff, Nat.reduceAdd, Nat.reduceMul, Nat.reduceLeDiff, Nat.reduceSub, Nat.reduceLT, Int.reduceToNat, Int.reduceLT, Int.reduceLE, reduceCtorEq]))
    refine next _ ⟨?_, ?_, ?_, ?_, rfl, rfl⟩
    · simp only [go_sem, Int.reduceTMod, Int.reduceTDiv, Int.reduceDiv, Int.reduceMod, Int.reduceAdd, Int.reduceSub, Int.reduceMul, Int.reduceNeg, Int.reducePow, Int.reduceEq, ↓reduceIte, Nat.reduceEqDiff, Nat.reduceAdd, Nat.reduceMul, Nat.reduceLeDiff, Nat.reduceSub, Nat.reduceLT, Int.reduceToNat, Int.reduceLT, Int.reduceLE, reduceCtorEq]
    · simp only [q12, go_sem, Int.reduceTMod, Int.reduceTDiv, Int.reduceDiv, Int.reduceMod, Int.reduceAdd, Int.reduceSub, Int.reduceMul, Int.reduceNeg, Int.reducePow, Int.reduceEq, ↓reduceIte, Nat.reduceEqDiff, Nat.reduceAdd, Nat.reduceMul, Nat.reduceLeDiff, Nat.reduceSub, Nat.reduceLT, Int.reduceToNat, Int.reduceLT, Int.reduceLE, reduceCtorEq]
    · simp only [q0, go_sem, Int.reduceTMod, Int.reduceTDiv, Int.reduceDiv, Int.reduceMod, Int.reduceAdd, Int.reduceSub, Int.reduceMul, Int.reduceNeg, Int.reducePow, Int.reduceEq, ↓reduceIte, Nat.reduceEqDiff, Nat.reduceAdd, Nat.reduceMul, Nat.reduceLeDiff, Nat.reduceSub, Nat.reduceLT, Int.reduceToNat, Int.reduceLT, Int.reduceLE, reduceCtorEq]
    · simp only [q1, go_sem, Int.reduceTMod, Int.reduceTDiv, Int.reduceDiv, Int.reduceMod, Int.reduceAdd, Int.reduceSub, Int.reduceMul, Int.reduceNeg, Int.reducePow, Int.reduceEq, ↓reduceIte, Nat.reduceEqDiff, Nat.reduceAdd, Nat.reduceMul, Nat.reduceLeDiff, Nat.reduceSub, Nat.reduceLT, Int.reduceToNat, Int.reduceLT, Int.reduceLE, reduceCtorEq]
  · obtain ⟨e, M, N⟩ := s
    obtain ⟨q13, q12, q0, q1, qm, qn⟩ := hs
    simp only at q13 q12 q0 q1 qm qn
    have c2 : ((l.length : Int) < (l.length : Int)) = False := eq_false (by omega)
    try simp only [r41_0, r41_1, r41_2, r41_3, r41_4, r41_5, r41_6, r41_7, r41_8, r41_9, c41, F41, l41_0, q13, q12, c2, go_sem, Int.reduceTMod, Int.reduceTDiv, Int.reduceDiv, Int.reduceMod, Int.reduceAdd, Int.reduceSub, Int.reduceMul, Int.reduceNeg, Int.reducePow, Int.reduceEq, ↓reduceIte, Nat.reduceEqDiff, Nat.reduceAdd, Nat.reduceMul, Nat.reduceLeDiff, Nat.reduceSub, Nat.reduceLT, Int.reduceToNat, Int.reduceLT, Int.reduceLE, reduceCtorEq]
    repeat' ((first | refine FK_split (fun h_ => ?_) (fun h_ => ?_) | refine GK_split (fun h_ => ?_) (fun h_ => ?_) | refine ite_both (fun h_ => ?_) (fun h_ => ?_)) <;> (try simp only [decide_eq_true_eq, decide_eq_false_iff_not, Bool.not_true, Bool.not_false, Bool.not_eq_true', Bool.not_eq_false', Bool.not_eq_eq_eq_not, Decidable.not_not] at h_) <;> (try simp only [r41_0, r41_1, r41_2, r41_3, r41_4, r41_5, r41_6, r41_7, r41_8, r41_9, c41, F41, l41_0, q13, q12, c2, h_, go_sem, Int.reduceTMod, Int.reduceTDiv, Int.reduceDiv, Int.reduceMod, Int.reduceAdd, Int.reduceSub, Int.reduceMul, Int.reduceNeg, Int.reducePow, Int.reduceEq, ↓reduceIte, Nat.reduceEqDiff, Nat.reduceAdd, Nat.reduceMul, Nat.reduceLeDiff, Nat.reduceSub, Nat.reduceLT, Int.reduceToNat, Int.reduceLT, Int.reduceLE, reduceCtorEq]))
  · simp only [go_sem, Int.reduceTMod, Int.reduceTDiv, Int.reduceDiv, Int.reduceMod, Int.reduceAdd, Int.reduceSub, Int.reduceMul, Int.reduceNeg, Int.reducePow, Int.reduceEq, ↓reduceIte, Nat.reduceEqDiff, Nat.reduceAdd, Nat.reduceMul, Nat.reduceLeDiff, Nat.reduceSub, Nat.reduceLT, Int.reduceToNat, Int.reduceLT, Int.reduceLE, reduceCtorEq]
  · simp only [go_sem, Int.reduceTMod, Int.reduceTDiv, Int.reduceDiv, Int.reduceMod, Int.reduceAdd, Int.reduceSub, Int.reduceMul, Int.reduceNeg, Int.reducePow, Int.reduceEq, ↓reduceIte, Nat.reduceEqDiff, Nat.reduceAdd, Nat.reduceMul, Nat.reduceLeDiff, Nat.reduceSub, Nat.reduceLT, Int.reduceToNat, Int.reduceLT, Int.reduceLE, reduceCtorEq]
  · simp only [go_sem, Int.reduceTMod, Int.reduceTDiv, Int.reduceDiv, Int.reduceMod, Int.reduceAdd, Int.reduceSub, Int.reduceMul, Int.reduceNeg, Int.reducePow, Int.reduceEq, ↓reduceIte, Nat.reduceEqDiff, Nat.reduceAdd, Nat.reduceMul, Nat.reduceLeDiff, Nat.reduceSub, Nat.reduceLT, Int.reduceToNat, Int.reduceLT, Int.reduceLE, reduceCtorEq]
  · simp only [go_sem, Int.reduceTMod, Int.reduceTDiv, Int.reduceDiv, Int.reduceMod, Int.reduceAdd, Int.reduceSub, Int.reduceMul, Int.reduceNeg, Int.reducePow, Int.reduceEq, ↓reduceIte, Nat.reduceEqDiff, Nat.reduceAdd, Nat.reduceMul, Nat.reduceLeDiff, Nat.reduceSub, Nat.reduceLT, Int.reduceToNat, Int.reduceLT, Int.reduceLE, reduceCtorEq]
theorem v_EqF {r r2 : Reg} {l l2 : List Sg} {m : Mem} {n : Nat} (hr : RSg m n r l) (hr2 : RSg m n r2 l2) (hl : l.length ≠ l2.length) : callF TA 41 [r, r2] m n = some (RB false) := by
  refine callF_of (Fn_ofK (fn := F41) rfl (by simp [F41]) ?_)
  have hlen := hr.len
  have hlen2 := hr2.len
  have h1 : ((l.length : Int) = (l2.length : Int)) = False := eq_false (by omega)
  try simp only [r41_0, r41_1, r41_2, r41_3, r41_4, r41_5, r41_6, r41_7, r41_8, r41_9, c41, F41, hlen, hlen2, h1, go_sem, Int.reduceTMod, Int.reduceTDiv, Int.reduceDiv, Int.reduceMod, Int.reduceAdd, Int.reduceSub, Int.reduceMul, Int.reduceNeg, Int.reducePow, Int.reduceEq, ↓reduceIte, Nat.reduceEqDiff, Nat.reduceAdd, Nat.reduceMul, Nat.reduceLeDiff, Nat.reduceSub, Nat.reduceLT, Int.reduceToNat, Int.reduceLT, Int.reduceLE, reduceCtorEq]
  repeat' ((first | refine FK_split (fun h_ => ?_) (fun h_ => ?_) | refine GK_split (fun h_ => ?_) (fun h_ => ?_) | refine ite_both (fun h_ => ?_) (fun h_ => ?_)) <;> (try simp only [decide_eq_true_eq, decide_eq_false_iff_not, Bool.not_true, Bool.not_false, Bool.not_eq_true', Bool.not_eq_false', Bool.not_eq_eq_eq_not, Decidable.not_not] at h_) <;> (try simp only [r41_0, r41_1, r41_2, r41_3, r41_4, r41_5, r41_6, r41_7, r41_8, r41_9, c41, F41, hlen, hlen2, h1, h_, go_sem, Int.reduceTMod, Int.reduceTDiv, Int.reduceDiv, Int.reduceMod, Int.reduceAdd, Int.reduceSub, Int.reduceMul, Int.reduceNeg, Int.reducePow, Int.reduceEq, ↓reduceIte, Nat.reduceEqDiff, Nat.reduceAdd, Nat.reduceMul, Nat.reduceLeDiff, Nat.reduceSub, Nat.reduceLT, Int.reduceToNat, Int.reduceLT, Int.reduceLE, reduceCtorEq]))
theorem v_PEqT {r r2 : Reg} {l : List Sg} {m : Mem} {n : Nat} (hr : RSg m n r l) (hr2 : RSg m n r2 l) (hl : l.length < 4294967296) : callF TA 17 [r, r2] m n = some (RB true) := by
  refine callF_of (Fn_ofK (fn := F17) rfl (by simp [F17]) ?_)
  have v := v_EqT hr.frz hr2.frz hl
  try simp only [r17_0, r17_1, c17, F17, v, go_sem, Int.reduceTMod, Int.reduceTDiv, Int.reduceDiv, Int.reduceMod, Int.reduceAdd, Int.reduceSub, Int.reduceMul, Int.reduceNeg, Int.reducePow, Int.reduceEq, ↓reduceIte, Nat.reduceEqDiff, Nat.reduceAdd, Nat.reduceMul, Nat.reduceLeDiff, Nat.reduceSub, Nat.reduceLT, Int.reduceToNat, Int.reduceLT, Int.reduceLE, reduceCtorEq]
  repeat' ((first | refine FK_split (fun h_ => ?_) (fun h_ => ?_) | refine GK_split (fun h_ => ?_) (fun h_ => ?_) | refine ite_both (fun h_ => ?_) (fun h_ => ?_)) <;> (try simp only [decide_eq_true_eq, decide_eq_false_iff_not, Bool.not_true, Bool.not_false, Bool.not_eq_true', Bool.not_eq_false', Bool.not_eq_eq_eq_not, Decidable.not_not] at h_) <;> (try simp only [r17_0, r17_1, c17, F17, v, h_, go_sem, Int.reduceTMod, Int.reduceTDiv, Int.reduceDiv, Int.reduceMod, Int.reduceAdd, Int.reduceSub, Int.reduceMul, Int.reduceNeg, Int.reducePow, Int.reduceEq, ↓reduceIte, Nat.reduceEqDiff, Nat.reduceAdd, Nat.reduceMul, Nat.reduceLeDiff, Nat.reduceSub, Nat.reduceLT, Int.reduceToNat, Int.reduceLT, Int.reduceLE, reduceCtorEq]))
theorem v_PEqF {r r2 : Reg} {l l2 : List Sg} {m : Mem} {n : Nat} (hr : RSg m n r l) (hr2 : RSg m n r2 l2) (hl : l.length ≠ l2.length) : callF TA 17 [r, r2] m n = some (RB false) := by
  refine callF_of (Fn_ofK (fn := F17) rfl (by simp [F17]) ?_)
  have v := v_EqF hr.frz hr2.frz hl
  try simp only [r17_0, r17_1, c17, F17, v, go_sem, Int.reduceTMod, Int.reduceTDiv, Int.reduceDiv, Int.reduceMod, Int.reduceAdd, Int.reduceSub, Int.reduceMul, Int.reduceNeg, Int.reducePow, Int.reduceEq, ↓reduceIte, Nat.reduceEqDiff, Nat.reduceAdd, Nat.reduceMul, Nat.reduceLeDiff, Nat.reduceSub, Nat.reduceLT, Int.reduceToNat, Int.reduceLT, Int.reduceLE, reduceCtorEq]
  repeat' ((first | refine FK_split (fun h_ => ?_) (fun h_ => ?_) | refine GK_split (fun h_ => ?_) (fun h_ => ?_) | refine ite_both (fun h_ => ?_) (fun h_ => ?_)) <;> (try simp only [decide_eq_true_eq, decide_eq_false_iff_not, Bool.not_true, Bool.not_false, Bool.not_eq_true', Bool.not_eq_false', Bool.not_eq_eq_eq_not, Decidable.not_not] at h_) <;> (try simp only [r17_0, r17_1, c17, F17, v, h_, go_sem, Int.reduceTMod, Int.reduceTDiv, Int.reduceDiv, Int.reduceMod, Int.reduceAdd, Int.reduceSub, Int.reduceMul, Int.reduceNeg, Int.reducePow, Int.reduceEq, ↓reduceIte, Nat.reduceEqDiff, Nat.reduceAdd, Nat.reduceMul, Nat.reduceLeDiff, Nat.reduceSub, Nat.reduceLT, Int.reduceToNat, Int.reduceLT, Int.reduceLE, reduceCtorEq]))
theorem del_ins (l : List Sg) (a : Nat) (s : Sg) (ha : a ≤ l.length) : delL (insL l a s) a = l := by
  have h : (l.take a).length = a := by rw [List.length_take]; omega
  simp only [delL, insL, Int.toNat_natCast]
  rw [List.append_assoc, List.take_append_of_le_length (by omega), List.take_take, Nat.min_self, List.drop_append, h, List.drop_of_length_le (by omega), show a + 1 - a = 1 by omega]
  simp
theorem put_put {l : List Sg} {a : Nat} {s : Sg} (hs : l[a]? = some s) (p : Pt) {j : Nat} (hj : j < 3) : pL (pL l a j p) a j (ptJ s j) = l := by
  have hi : a < l.length := (List.getElem?_eq_some_iff.1 hs).1
  have hg : l.getD a zS = s := by simp [List.getD_eq_getElem?_getD, hs]
  have h1 : pL l a j p = l.set a (putP s p j) := by simp only [pL, Int.toNat_natCast, hg]
  have hg2 : (l.set a (putP s p j)).getD a zS = putP s p j := by simp [List.getD_eq_getElem?_getD, List.getElem?_set_self hi]
  rw [h1]
  simp only [pL, Int.toNat_natCast, hg2, List.set_set]
  have h2 : putP (putP s p j) (ptJ s j) j = s := by
    have h3 : j = 0 ∨ j = 1 ∨ j = 2 := by omega
    rcases h3 with rfl | rfl | rfl <;> rfl
  rw [h2]
  have := (List.getElem?_eq_some_iff.1 hs).2
  rw [← this]
  exact List.set_getElem_self hi
set_option maxHeartbeats 8000000 in
theorem law8 (c : Cell) (l : List Sg) (i k : Int) (s : Sg) (p : Pt) (m : Mem) (n : Nat) (hr : RSg m n (.one c) l) (hc : capN (.one c)) (hn : 0 < n) (o : Bool) (h0 : m 0 = some ⟨needC, o⟩) :
    Fn TA 8 [.agg (zC c i k s p)] m n (fun r _ _ => r = RB true) := by
  refine Fn_ofK (fn := F8) rfl (by simp [F8]) ?_
  have hlen := hr.len
  have hnz : (0 = n) = False := eq_false (by omega)
  by_cases g : 100 < (l.length : Int)
  · skip
    try simp only [r8_0, r8_1, r8_2, r8_3, r8_4, r8_5, r8_6, r8_7, r8_8, r8_9, r8_10, r8_11, r8_12, r8_13, c8, F8, hlen, g, hnz, h0, needC_flat, v_awake06, go_sem, Int.reduceTMod, Int.reduceTDiv, Int.reduceDiv, Int.reduceMod, Int.reduceAdd, Int.reduceSub, Int.reduceMul, Int.reduceNeg, Int.reducePow, Int.reduceEq, ↓reduceIte, Nat.reduceEqDiff, Nat.reduceAdd, Nat.reduceMul, Nat.reduceLeDiff, Nat.reduceSub, Nat.reduceLT, Int.reduceToNat, Int.reduceLT, Int.reduceLE, reduceCtorEq]
    repeat' ((first | refine FK_split (fun h_ => ?_) (fun h_ => ?_) | refine GK_split (fun h_ => ?_) (fun h_ => ?_) | refine ite_both (fun h_ => ?_) (fun h_ => ?_)) <;> (try simp only [decide_eq_true_eq, decide_eq_false_iff_not, Bool.not_true, Bool.not_false, Bool.not_eq_true', Bool.not_eq_false', Bool.not_eq_eq_eq_not, Decidable.not_not] at h_) <;> (try simp only [r8_0, r8_1, r8_2, r8_3, r8_4, r8_5, r8_6, r8_7, r8_8, r8_9, r8_10, r8_11, r8_12, r8_13, c8, F8, hlen, g, hnz, h0, needC_flat, v_awake06, h_, go_sem, Int.reduceTMod, Int.reduceTDiv, Int.reduceDiv, Int.reduceMod, Int.reduceAdd, Int.reduceSub, Int.reduceMul, Int.reduceNeg, Int.reducePow, Int.reduceEq, ↓reduceIte, Nat.reduceEqDiff, Nat.reduceAdd, Nat.reduceMul, Nat.reduceLeDiff, Nat.reduceSub, Nat.reduceLT, Int.reduceToNat, Int.reduceLT, Int.reduceLE, reduceCtorEq]))
  have hr0 : RSg (upd m n (some ⟨zC c i k s p, true⟩)) (n + 1) (.one c) l := hr.keep (by omega) (fun id hid => upd_ne _ _ (by omega))
  have hb0 : (upd m n (some ⟨zC c i k s p, true⟩)) n = some ⟨zC c i k s p, true⟩ := upd_same _ _ _
  have hz0 : (upd m n (some ⟨zC c i k s p, true⟩)) 0 = some ⟨needC, o⟩ := by rw [upd_ne _ _ (by omega)]; exact h0
  -- the second part
  have part2 : ∀ (e : Nat → Reg) (M : Mem) (N : Nat), n < N → e 1 = .one (.ptr n 0) → M n = some ⟨zC c i k s p, true⟩ → M 0 = some ⟨needC, o⟩ → RSg M N (.one c) l →
      RK TA r8_8 e M N (Kt.seq (SC.seq (.reg r8_9) (.cond (.t 63) (SC.seq (.reg r8_10) (SC.seq (.reg r8_11) (.cond (.t 91) (.seq (.reg r8_12) .ret) .skip))) .skip)) (Kt.seq (.seq (.reg r8_13) .ret) (Kt.fin [.tmp 2] (fun r _ _ => r = RB true)))) := by
    intro e M N hN q1 hb hz hrM
    try simp only [r8_8, q1, hb, rd_of hb, go_sem, Int.reduceTMod, Int.reduceTDiv, Int.reduceDiv, Int.reduceMod, Int.reduceAdd, Int.reduceSub, Int.reduceMul, Int.reduceNeg, Int.reducePow, Int.reduceEq, ↓reduceIte, Nat.reduceEqDiff, Nat.reduceAdd, Nat.reduceMul, Nat.reduceLeDiff, Nat.reduceSub, Nat.reduceLT, Int.reduceToNat, Int.reduceLT, Int.reduceLE, reduceCtorEq]
    repeat' ((first | refine FK_split (fun h_ => ?_) (fun h_ => ?_) | refine GK_split (fun h_ => ?_) (fun h_ => ?_) | refine ite_both (fun h_ => ?_) (fun h_ => ?_)) <;> (try simp only [decide_eq_true_eq, decide_eq_false_iff_not, Bool.not_true, Bool.not_false, Bool.not_eq_true', Bool.not_eq_false', Bool.not_eq_eq_eq_not, Decidable.not_not] at h_) <;> (try simp only [r8_8, q1, hb, rd_of hb, h_, go_sem, Int.reduceTMod, Int.reduceTDiv, Int.reduceDiv, Int.reduceMod, Int.reduceAdd, Int.reduceSub, Int.reduceMul, Int.reduceNeg, Int.reducePow, Int.reduceEq, ↓reduceIte, Nat.reduceEqDiff, Nat.reduceAdd, Nat.reduceMul, Nat.reduceLeDiff, Nat.reduceSub, Nat.reduceLT, Int.reduceToNat, Int.reduceLT, Int.reduceLE, reduceCtorEq]))
    refine RK_callk ?_
    refine (w_Put i k p hrM.frz (by rw [frz_at, hz]; rfl) (by omega) (by omega)).mono ?_
    intro r2 m2 n2 h2
    obtain ⟨x2, rfl, hn2, hq2⟩ := h2.out (M := M)
    rw [show max N n2 = n2 by omega]
    have hr2 := hrM.up (m' := m2) hn2
    have hb2 : unfrz M N m2 n = some ⟨zC c i k s p, true⟩ := by rw [unfrz_at, if_pos (by omega)]; exact hb
    have hz2 : unfrz M N m2 0 = some ⟨needC, o⟩ := by rw [unfrz_at, if_pos (by omega)]; exact hz
    generalize unfrz M N m2 = M2 at *
    rcases hq2 with ⟨hne, rfl⟩ | ⟨hE, hx2, hcx⟩
    · skip
      try simp only [r8_0, r8_1, r8_2, r8_3, r8_4, r8_5, r8_6, r8_7, r8_8, r8_9, r8_10, r8_11, r8_12, r8_13, c8, F8, q1, hne, hz2, needC_flat, v_awake06, go_sem, Int.reduceTMod, Int.reduceTDiv, Int.reduceDiv, Int.reduceMod, Int.reduceAdd, Int.reduceSub, Int.reduceMul, Int.reduceNeg, Int.reducePow, Int.reduceEq, ↓reduceIte, Nat.reduceEqDiff, Nat.reduceAdd, Nat.reduceMul, Nat.reduceLeDiff, Nat.reduceSub, Nat.reduceLT, Int.reduceToNat, Int.reduceLT, Int.reduceLE, reduceCtorEq]
      repeat' ((first | refine FK_split (fun h_ => ?_) (fun h_ => ?_) | refine GK_split (fun h_ => ?_) (fun h_ => ?_) | refine ite_both (fun h_ => ?_) (fun h_ => ?_)) <;> (try simp only [decide_eq_true_eq, decide_eq_false_iff_not, Bool.not_true, Bool.not_false, Bool.not_eq_true', Bool.not_eq_false', Bool.not_eq_eq_eq_not, Decidable.not_not] at h_) <;> (try simp only [r8_0, r8_1, r8_2, r8_3, r8_4, r8_5, r8_6, r8_7, r8_8, r8_9, r8_10, r8_11, r8_12, r8_13, c8, F8, q1, hne, hz2, needC_flat, v_awake06, h_, go_sem, Int.reduceTMod, Int.reduceTDiv, Int.reduceDiv, Int.reduceMod, Int.reduceAdd, Int.reduceSub, Int.reduceMul, Int.reduceNeg, Int.reducePow, Int.reduceEq, ↓reduceIte, Nat.reduceEqDiff, Nat.reduceAdd, Nat.reduceMul, Nat.reduceLeDiff, Nat.reduceSub, Nat.reduceLT, Int.reduceToNat, Int.reduceLT, Int.reduceLE, reduceCtorEq]))
    have ha0 : atE l i = 0 := by
      unfold pEr at hE
      split at hE
      · assumption
      · exact hE
    obtain ⟨hk, hi⟩ := at_in ha0
    obtain ⟨a, rfl⟩ : ∃ a : Nat, i = a := ⟨i.toNat, by omega⟩
    obtain ⟨sg, hs⟩ : ∃ sg, l[a]? = some sg := ⟨l[a], List.getElem?_eq_getElem (by omega)⟩
    have hgd : l.getD (a : Int).toNat zS = sg := by simp [List.getD_eq_getElem?_getD, hs]
    have hpE : pEr l a k p = if k < 0 ∨ need sg.k ≤ k then 30 else chkP (pL l a k p) := by unfold pEr; rw [if_pos ha0, hgd]
    rw [hE] at hpE
    have hk2 : ¬ (k < 0 ∨ need sg.k ≤ k) := fun h => by rw [if_pos h] at hpE; cases hpE
    rw [if_neg hk2] at hpE
    obtain ⟨j, rfl⟩ : ∃ j : Nat, k = j := ⟨k.toNat, by omega⟩
    have hnb := need_bd sg.k
    have hj : j < 3 := by omega
    have hpL : pL l a j p = l.set a (putP sg p j) := by unfold pL; rw [hgd]; rfl
    have hll : (pL l a j p).length = l.length := by rw [hpL, List.length_set]
    have hpp := put_put hs p hj
    have ha1 : atE (pL l a j p) a = 0 := by unfold atE; rw [← hpE, if_pos rfl, if_neg (by omega)]
    have hgd2 : (pL l a j p).getD (a : Int).toNat zS = putP sg p j := by
      rw [hpL]
      simp [List.getD_eq_getElem?_getD, List.getElem?_set_self (show a < l.length by omega)]
    have hnk : (putP sg p j).k = sg.k := by
      have h3 : j = 0 ∨ j = 1 ∨ j = 2 := by omega
      rcases h3 with rfl | rfl | rfl <;> rfl
    have hE2 : pEr (pL l a j p) a j (ptJ sg j) = 0 := by
      unfold pEr
      rw [if_pos ha1, hgd2, hnk, if_neg hk2, hpp, hk]
    obtain ⟨id, off, cap, hr1', hid, hrd⟩ := hr2.at cs7 hs
    have hpt := rd_sub (a := 1 + j * 2) (q := 2) hrd (by omega)
    have hpt2 : (sg.cs.drop (1 + j * 2)).take 2 = [I (ptJ sg j).x, I (ptJ sg j).y] := by
      have h3 : j = 0 ∨ j = 1 ∨ j = 2 := by omega
      rcases h3 with rfl | rfl | rfl <;> rfl
    rw [hpt2, show off + a * 7 + (1 + j * 2) = off + (a * 7 + 1) + j * 2 by omega] at hpt
    have hc1 : c = .sl id off l.length cap 7 := by injection hr1'
    have c2 : ((a : Int) < (l.length : Int)) = True := eq_true (by omega)
    have c3 : (0 ≤ (a : Int)) = True := eq_true (by omega)
    have d1 : (0 ≤ (j : Int)) = True := eq_true (by omega)
    have d2 : ((j : Int) < 3) = True := eq_true (by omega)
    have d3 : ((j : Int) < ((3 : Nat) : Int)) = True := eq_true (by omega)
    have hs0 : (0 : Int) = 0 := rfl
    try simp only [r8_0, r8_1, r8_2, r8_3, r8_4, r8_5, r8_6, r8_7, r8_8, r8_9, r8_10, r8_11, r8_12, r8_13, c8, F8, q1, hE, hb2, rd_of hb2, hc1, c2, c3, d1, d2, d3, hpt, Int.toNat_natCast, go_sem, Int.reduceTMod, Int.reduceTDiv, Int.reduceDiv, Int.reduceMod, Int.reduceAdd, Int.reduceSub, Int.reduceMul, Int.reduceNeg, Int.reducePow, Int.reduceEq, ↓reduceIte, Nat.reduceEqDiff, Nat.reduceAdd, Nat.reduceMul, Nat.reduceLeDiff, Nat.reduceSub, Nat.reduceLT, Int.reduceToNat, Int.reduceLT, Int.reduceLE, reduceCtorEq]
    repeat' ((first | refine FK_split (fun h_ => ?_) (fun h_ => ?_) | refine GK_split (fun h_ => ?_) (fun h_ => ?_) | refine ite_both (fun h_ => ?_) (fun h_ => ?_)) <;> (try simp only [decide_eq_true_eq, decide_eq_false_iff_not, Bool.not_true, Bool.not_false, Bool.not_eq_true', Bool.not_eq_false', Bool.not_eq_eq_eq_not, Decidable.not_not] at h_) <;> (try simp only [r8_0, r8_1, r8_2, r8_3, r8_4, r8_5, r8_6, r8_7, r8_8, r8_9, r8_10, r8_11, r8_12, r8_13, c8, F8, q1, hE, hb2, rd_of hb2, hc1, c2, c3, d1, d2, d3, hpt, Int.toNat_natCast, h_, go_sem, Int.reduceTMod, Int.reduceTDiv, Int.reduceDiv, Int.reduceMod, Int.reduceAdd, Int.reduceSub, Int.reduceMul, Int.reduceNeg, Int.reducePow, Int.reduceEq, ↓reduceIte, Nat.reduceEqDiff, Nat.reduceAdd, Nat.reduceMul, Nat.reduceLeDiff, Nat.reduceSub, Nat.reduceLT, Int.reduceToNat, Int.reduceLT, Int.reduceLE, reduceCtorEq]))
    refine RK_callk ?_
    refine (w_Put a j (ptJ sg j) hx2.frz (by rw [frz_at, hz2]; rfl) (by omega) (by omega)).mono ?_
    rw [hpp, hE2]
    intro r3 m3 n3 h3
    obtain ⟨x3, rfl, hn3, hq3⟩ := h3.out (M := M2)
    obtain ⟨_, hx3, _⟩ := hq3.resolve_left (fun h => h.1 rfl)
    rw [show max n2 n3 = n3 by omega]
    have hr3 := hr2.up (m' := m3) hn3
    have hb3 : unfrz M2 n2 m3 n = some ⟨zC c a j s p, true⟩ := by rw [unfrz_at, if_pos (by omega)]; exact hb2
    have hz3 : unfrz M2 n2 m3 0 = some ⟨needC, o⟩ := by rw [unfrz_at, if_pos (by omega)]; exact hz2
    generalize unfrz M2 n2 m3 = M3 at *
    have vE := v_PEqT hx3.frz hr3.frz (by omega)
    rw [hc1] at vE
    try simp only [r8_0, r8_1, r8_2, r8_3, r8_4, r8_5, r8_6, r8_7, r8_8, r8_9, r8_10, r8_11, r8_12, r8_13, c8, F8, q1, hb3, rd_of hb3, hc1, vE, hz3, needC_flat, v_awake06, go_sem, Int.reduceTMod, Int.reduceTDiv, Int.reduceDiv, Int.reduceMod, Int.reduceAdd, Int.reduceSub, Int.reduceMul, Int.reduceNeg, Int.reducePow, Int.reduceEq, ↓reduceIte, Nat.reduceEqDiff, Nat.reduceAdd, Nat.reduceMul, Nat.reduceLeDiff, Nat.reduceSub, Nat.reduceLT, Int.reduceToNat, Int.reduceLT, Int.reduceLE, reduceCtorEq]
    repeat' ((first | refine FK_split (fun h_ => ?_) (fun h_ => ?_) | refine GK_split (fun h_ => ?_) (fun h_ => ?_) | refine ite_both (fun h_ => ?_) (fun h_ => ?_)) <;> (try simp only [decide_eq_true_eq, decide_eq_false_iff_not, Bool.not_true, Bool.not_false, Bool.not_eq_true', Bool.not_eq_false', Bool.not_eq_eq_eq_not, Decidable.not_not] at h_) <;> (try simp only [r8_0, r8_1, r8_2, r8_3, r8_4, r8_5, r8_6, r8_7, r8_8, r8_9, r8_10, r8_11, r8_12, r8_13, c8, F8, q1, hb3, rd_of hb3, hc1, vE, hz3, needC_flat, v_awake06, h_, go_sem, Int.reduceTMod, Int.reduceTDiv, Int.reduceDiv, Int.reduceMod, Int.reduceAdd, Int.reduceSub, Int.reduceMul, Int.reduceNeg, Int.reducePow, Int.reduceEq, ↓reduceIte, Nat.reduceEqDiff, Nat.reduceAdd, Nat.reduceMul, Nat.reduceLeDiff, Nat.reduceSub, Nat.reduceLT, Int.reduceToNat, Int.reduceLT, Int.reduceLE, reduceCtorEq]))
  try simp only [r8_0, r8_1, r8_3, F8, c8, hlen, g, go_sem, Int.reduceTMod, Int.reduceTDiv, Int.reduceDiv, Int.reduceMod, Int.reduceAdd, Int.reduceSub, Int.reduceMul, Int.reduceNeg, Int.reducePow, Int.reduceEq, ↓reduceIte, Nat.reduceEqDiff, Nat.reduceAdd, Nat.reduceMul, Nat.reduceLeDiff, Nat.reduceSub, Nat.reduceLT, Int.reduceToNat, Int.reduceLT, Int.reduceLE, reduceCtorEq]
  repeat' ((first | refine FK_split (fun h_ => ?_) (fun h_ => ?_) | refine GK_split (fun h_ => ?_) (fun h_ => ?_) | refine ite_both (fun h_ => ?_) (fun h_ => ?_)) <;> (try simp only [decide_eq_true_eq, decide_eq_false_iff_not, Bool.not_true, Bool.not_false, Bool.not_eq_true', Bool.not_eq_false', Bool.not_eq_eq_eq_not, Decidable.not_not] at h_) <;> (try simp only [r8_0, r8_1, r8_3, F8, c8, hlen, g, h_, go_sem, Int.reduceTMod, Int.reduceTDiv, Int.reduceDiv, Int.reduceMod, Int.reduceAdd, Int.reduceSub, Int.reduceMul, Int.reduceNeg, Int.reducePow, Int.reduceEq, ↓reduceIte, Nat.reduceEqDiff, Nat.reduceAdd, Nat.reduceMul, Nat.reduceLeDiff, Nat.reduceSub, Nat.reduceLT, Int.reduceToNat, Int.reduceLT, Int.reduceLE, reduceCtorEq]))
  refine RK_callk ?_
  refine (w_Insert i s hr0.frz hc (by rw [frz_at, hz0]; rfl) (by omega) (by omega)).mono ?_
  intro r2 m2 n2 h2
  obtain ⟨x2, rfl, hn2, hq2⟩ := h2.out (M := upd m n (some ⟨zC c i k s p, true⟩))
  rw [show max (n + 1) n2 = n2 by omega]
  have hr2 := hr0.up (m' := m2) hn2
  have hb2 : unfrz (upd m n (some ⟨zC c i k s p, true⟩)) (n + 1) m2 n = some ⟨zC c i k s p, true⟩ := by rw [unfrz_at, if_pos (by omega)]; exact hb0
  have hz2 : unfrz (upd m n (some ⟨zC c i k s p, true⟩)) (n + 1) m2 0 = some ⟨needC, o⟩ := by rw [unfrz_at, if_pos (by omega)]; exact hz0
  generalize unfrz (upd m n (some ⟨zC c i k s p, true⟩)) (n + 1) m2 = M2 at *
  rcases hq2 with ⟨hne, rfl⟩ | ⟨hE, hx2, hcx⟩
  · skip
    try simp only [r8_3, r8_4, hne, go_sem, Int.reduceTMod, Int.reduceTDiv, Int.reduceDiv, Int.reduceMod, Int.reduceAdd, Int.reduceSub, Int.reduceMul, Int.reduceNeg, Int.reducePow, Int.reduceEq, ↓reduceIte, Nat.reduceEqDiff, Nat.reduceAdd, Nat.reduceMul, Nat.reduceLeDiff, Nat.reduceSub, Nat.reduceLT, Int.reduceToNat, Int.reduceLT, Int.reduceLE, reduceCtorEq]
    repeat' ((first | refine FK_split (fun h_ => ?_) (fun h_ => ?_) | refine GK_split (fun h_ => ?_) (fun h_ => ?_) | refine ite_both (fun h_ => ?_) (fun h_ => ?_)) <;> (try simp only [decide_eq_true_eq, decide_eq_false_iff_not, Bool.not_true, Bool.not_false, Bool.not_eq_true', Bool.not_eq_false', Bool.not_eq_eq_eq_not, Decidable.not_not] at h_) <;> (try simp only [r8_3, r8_4, hne, h_, go_sem, Int.reduceTMod, Int.reduceTDiv, Int.reduceDiv, Int.reduceMod, Int.reduceAdd, Int.reduceSub, Int.reduceMul, Int.reduceNeg, Int.reducePow, Int.reduceEq, ↓reduceIte, Nat.reduceEqDiff, Nat.reduceAdd, Nat.reduceMul, Nat.reduceLeDiff, Nat.reduceSub, Nat.reduceLT, Int.reduceToNat, Int.reduceLT, Int.reduceLE, reduceCtorEq]))
    exact part2 _ _ _ (by omega) rfl hb2 hz2 hr2
  have hk : chkP l = 0 := by
    unfold insE at hE
    split at hE
    · assumption
    · exact hE
  have hi : ¬ (i < 0 ∨ (l.length : Int) < i) := fun h => by
    unfold insE at hE
    rw [if_pos hk, if_pos h] at hE
    cases hE
  obtain ⟨a, rfl⟩ : ∃ a : Nat, i = a := ⟨i.toNat, by omega⟩
  have hE1 : chkP (insL l a s) = 0 := by
    unfold insE at hE
    rw [if_pos hk, if_neg hi] at hE
    exact hE
  have hil : (insL l a s).length = l.length + 1 := by simp [insL]; omega
  have ha1 : atE (insL l a s) a = 0 := by unfold atE; rw [hE1, if_pos rfl, if_neg (by omega)]
  have hdi := del_ins l a s (by omega)
  have hE2 : delE (insL l a s) a = 0 := by unfold delE; rw [if_pos ha1, hdi, hk]
  try simp only [r8_3, r8_4, r8_5, hE, hb2, rd_of hb2, go_sem, Int.reduceTMod, Int.reduceTDiv, Int.reduceDiv, Int.reduceMod, Int.reduceAdd, Int.reduceSub, Int.reduceMul, Int.reduceNeg, Int.reducePow, Int.reduceEq, ↓reduceIte, Nat.reduceEqDiff, Nat.reduceAdd, Nat.reduceMul, Nat.reduceLeDiff, Nat.reduceSub, Nat.reduceLT, Int.reduceToNat, Int.reduceLT, Int.reduceLE, reduceCtorEq]
  repeat' ((first | refine FK_split (fun h_ => ?_) (fun h_ => ?_) | refine GK_split (fun h_ => ?_) (fun h_ => ?_) | refine ite_both (fun h_ => ?_) (fun h_ => ?_)) <;> (try simp only [decide_eq_true_eq, decide_eq_false_iff_not, Bool.not_true, Bool.not_false, Bool.not_eq_true', Bool.not_eq_false', Bool.not_eq_eq_eq_not, Decidable.not_not] at h_) <;> (try simp only [r8_3, r8_4, r8_5, hE, hb2, rd_of hb2, h_, go_sem, Int.reduceTMod, Int.reduceTDiv, Int.reduceDiv, Int.reduceMod, Int.reduceAdd, Int.reduceSub, Int.reduceMul, Int.reduceNeg, Int.reducePow, Int.reduceEq, ↓reduceIte, Nat.reduceEqDiff, Nat.reduceAdd, Nat.reduceMul, Nat.reduceLeDiff, Nat.reduceSub, Nat.reduceLT, Int.reduceToNat, Int.reduceLT, Int.reduceLE, reduceCtorEq]))
  refine RK_callk ?_
  refine (w_Delete a hx2.frz hcx (by rw [frz_at, hz2]; rfl) (by omega) (by omega)).mono ?_
  rw [hdi, hE2]
  intro r3 m3 n3 h3
  obtain ⟨x3, rfl, hn3, hq3⟩ := h3.out (M := M2)
  obtain ⟨_, hx3, _⟩ := hq3.resolve_left (fun h => h.1 rfl)
  rw [show max n2 n3 = n3 by omega]
  have hr3 := hr2.up (m' := m3) hn3
  have hx2' := hx2.up (m' := m3) hn3
  have hb3 : unfrz M2 n2 m3 n = some ⟨zC c a k s p, true⟩ := by rw [unfrz_at, if_pos (by omega)]; exact hb2
  have hz3 : unfrz M2 n2 m3 0 = some ⟨needC, o⟩ := by rw [unfrz_at, if_pos (by omega)]; exact hz2
  generalize unfrz M2 n2 m3 = M3 at *
  have vE := v_PEqT hx3.frz hr3.frz (by omega)
  have vF := v_PEqF hx2'.frz hr3.frz (by omega)
  try simp only [r8_5, r8_6, hb3, rd_of hb3, vE, vF, go_sem, Int.reduceTMod, Int.reduceTDiv, Int.reduceDiv, Int.reduceMod, Int.reduceAdd, Int.reduceSub, Int.reduceMul, Int.reduceNeg, Int.reducePow, Int.reduceEq, ↓reduceIte, Nat.reduceEqDiff, Nat.reduceAdd, Nat.reduceMul, Nat.reduceLeDiff, Nat.reduceSub, Nat.reduceLT, Int.reduceToNat, Int.reduceLT, Int.reduceLE, reduceCtorEq]
  repeat' ((first | refine FK_split (fun h_ => ?_) (fun h_ => ?_) | refine GK_split (fun h_ => ?_) (fun h_ => ?_) | refine ite_both (fun h_ => ?_) (fun h_ => ?_)) <;> (try simp only [decide_eq_true_eq, decide_eq_false_iff_not, Bool.not_true, Bool.not_false, Bool.not_eq_true', Bool.not_eq_false', Bool.not_eq_eq_eq_not, Decidable.not_not] at h_) <;> (try simp only [r8_5, r8_6, hb3, rd_of hb3, vE, vF, h_, go_sem, Int.reduceTMod, Int.reduceTDiv, Int.reduceDiv, Int.reduceMod, Int.reduceAdd, Int.reduceSub, Int.reduceMul, Int.reduceNeg, Int.reducePow, Int.reduceEq, ↓reduceIte, Nat.reduceEqDiff, Nat.reduceAdd, Nat.reduceMul, Nat.reduceLeDiff, Nat.reduceSub, Nat.reduceLT, Int.reduceToNat, Int.reduceLT, Int.reduceLE, reduceCtorEq]))
  exact part2 _ _ _ (by omega) rfl hb3 hz3 hr3
end Go.Proofs.YtpleidpbapgmiaaDoor.Sy
