import Derived.Test.YtidpeongblkcbaaDoorMgG
/- The reference's plain points. Conditions: those that each theorem names. -/
namespace Go.Proofs.YtidpeongblkcbaaDoor.Sy
open Go Go.Proofs
set_option linter.unusedSimpArgs false
set_option linter.unusedVariables false
set_option maxRecDepth 20000
attribute [local go_sem] XK_seq XK_block XK_skip XK_exit XK_ret XK_cond XK_reg XK_dreg XK_ureg KN_seq KN_blk KN_lp KN_chk KN_chku KN_top KN_fin KX_seq KX_lp KX_blk KX_chk KX_top KR_seq KR_blk KR_lp KR_chk KR_top KR_fin FK_true FK_false RK_nil RK_mv RK_pick RK_alloc RK_box RK_build RK_bslice RK_load1 RK_loadA RK_store RK_nilchk RK_bin RK_beq RK_eqv RK_eqnil RK_un RK_conv RK_mkfn RK_mkslice RK_slS RK_slA RK_fadr RK_fld RK_iadrA RK_iadrS RK_idxA RK_ext RK_lenC RK_cap RK_app RK_cpy RK_mn RK_mx RK_len RK_carry RK_clr carryR um0 um1 ThenK_some RK_guard GK_tt GK_ff GK_tf GK_ft GK_none QK_some RK_callQ RK_callZ VK_clo RK_callV
  evalOp evO evOs upd_at unfrz_at putE_some putE_none boolOf_b boolOf_tup Option.map_some evRes pack_one pack_two pack_three pack_none List.getD_cons_zero List.getD_cons_succ getD_nil
  Option.some.injEq exists_eq_left' Reg.cs? fillC setL List.set_cons_zero List.set_cons_succ List.length_cons List.length_nil rd_upd rd_updn rdB wr List.drop_zero List.drop_succ_cons List.take_succ_cons List.take_zero List.getElem?_cons_zero List.getElem?_cons_succ
  ix Int.toNat_zero lenO_sl lenO_nil nadd na_eq na_eq' na_lt na_ee na_ll na_ne na_ne' na_tt
attribute [local go_sem] Reg.flat_one Reg.flat_agg Reg.flat_tup flats_nil flats_cons Cell.flat_sc Cell.flat_ptr List.all_cons List.all_nil disOk safeOk safeR decide_eq_true_eq decide_eq_false_iff_not
  List.map_cons List.map_nil List.cons_append List.nil_append List.append_nil evalOp.capsOf Bool.false_bne Bool.bne_false Bool.true_bne Bool.bne_true bne_self_eq_false beq_self_eq_true Bool.not_not Bool.false_and Bool.and_false Bool.true_or Bool.or_true beq_iff_eq eqCells
  Bool.true_beq Bool.false_beq Bool.not_eq_true' Bool.not_eq_eq_eq_not Bool.not_eq_false' and_false false_and frz_at idOf Option.isSome_some Bool.and_eq_true
attribute [local go_sem] wr_eq bV_add bV_sub bV_mul bV_eql bV_neq bV_lss bV_leq bV_gtr bV_geq bV_quo bV_rem bV_shr bV_shl uV_not uV_neg wrapU bits_and bits_or bits_xor IntKind.bits Nat.min_eq_left Nat.min_eq_right Nat.min_self
attribute [local go_sem] bne_iff_ne Int.cast_ofNat_Int Nat.zero_add Nat.add_zero and_self and_true true_and ne_eq not_false_eq_true not_true_eq_false decide_true decide_false Bool.false_eq_true Bool.not_true Bool.not_false Bool.true_and Bool.and_true Bool.or_false Bool.false_or Bool.and_self

theorem rdrop_loop {K : Kt} {m : Mem} {n : Nat} {p : List Pt} {r : Reg} {c : Bool} {P : Nat → Prop} (hr : RPt m n r p) (hl : p.length < 4294967296) (hc : 1 < p.length → ∃ id off, r = .one (.sl id off p.length none 2)) (hP : ∀ id, sid r = some id → P id)
    {e : Nat → Reg} (e1 : e 1 = RB c) (e8 : e 5 = r)
    (hK : ∀ s, s.m = m → s.n = n → RPt m n (s.e 5) (if c = true then dropE p else p) → (∀ id, sid (s.e 5) = some id → P id) → KX TA K 2 s) :
    XK TA (.loop l41_1) ⟨e, m, n⟩ K := by
  refine XK_down (inv := fun d s => s.e 1 = RB c ∧ s.m = m ∧ s.n = n ∧ ∃ q, RPt m n (s.e 5) q ∧ (1 < q.length → ∃ id off, s.e 5 = .one (.sl id off q.length none 2)) ∧ (∀ id, sid (s.e 5) = some id → P id) ∧ q.length < 4294967296 ∧ d = q.length ∧ (if c = true then dropE q else q) = (if c = true then dropE p else p))
    (fun L _ d s hs next => ?_) p.length _ ?_
  · obtain ⟨e, M, N⟩ := s
    obtain ⟨q1, qm, qn, q, hr1, hc1, hP1, hl1, hd, heq⟩ := hs
    simp only at q1 qm qn hr1 hc1 hP1
    subst qm
    subst qn
    have hlen := hr1.len
    cases hcc : c
    · subst hcc
      simp only [Bool.false_eq_true, if_false] at heq hK
      try simp only [r41_0, r41_1, r41_2, r41_3, r41_5, r41_6, r41_4, r41_7, r41_8, r41_9, c41, F41, l41_0, l41_1, q1, hlen, go_sem, Int.reduceTMod, Int.reduceTDiv, Int.reduceDiv, Int.reduceMod, Int.reduceAdd, Int.reduceSub, Int.reduceMul, Int.reduceNeg, Int.reducePow, Int.reduceEq, ↓reduceIte, Nat.reduceEqDiff, Nat.reduceAdd, Nat.reduceMul, Nat.reduceLeDiff, Nat.reduceSub, Nat.reduceLT, Int.reduceToNat, Int.reduceLT, Int.reduceLE, reduceCtorEq]
      repeat' ((first | refine FK_split (fun h_ => ?_) (fun h_ => ?_) | refine GK_split (fun h_ => ?_) (fun h_ => ?_) | refine ite_both (fun h_ => ?_) (fun h_ => ?_)) <;> (try simp only [decide_eq_true_eq, decide_eq_false_iff_not, Bool.not_true, Bool.not_false, Bool.not_eq_true', Bool.not_eq_false', Bool.not_eq_eq_eq_not, Decidable.not_not] at h_) <;> (try simp only [r41_0, r41_1, r41_2, r41_3, r41_5, r41_6, r41_4, r41_7, r41_8, r41_9, c41, F41, l41_0, l41_1, q1, hlen, h_, go_sem, Int.reduceTMod, Int.reduceTDiv, Int.reduceDiv, Int.reduceMod, Int.reduceAdd, Int.reduceSub, Int.reduceMul, Int.reduceNeg, Int.reducePow, Int.reduceEq, ↓reduceIte, Nat.reduceEqDiff, Nat.reduceAdd, Nat.reduceMul, Nat.reduceLeDiff, Nat.reduceSub, Nat.reduceLT, Int.reduceToNat, Int.reduceLT, Int.reduceLE, reduceCtorEq]))
      refine hK _ rfl rfl ?_ ?_
      · simp only [go_sem, Int.reduceTMod, Int.reduceTDiv, Int.reduceDiv, Int.reduceMod, Int.reduceAdd, Int.reduceSub, Int.reduceMul, Int.reduceNeg, Int.reducePow, Int.reduceEq, ↓reduceIte, Nat.reduceEqDiff, Nat.reduceAdd, Nat.reduceMul, Nat.reduceLeDiff, Nat.reduceSub, Nat.reduceLT, Int.reduceToNat, Int.reduceLT, Int.reduceLE, reduceCtorEq]
        rw [← heq]
        exact hr1
      · simp only [go_sem, Int.reduceTMod, Int.reduceTDiv, Int.reduceDiv, Int.reduceMod, Int.reduceAdd, Int.reduceSub, Int.reduceMul, Int.reduceNeg, Int.reducePow, Int.reduceEq, ↓reduceIte, Nat.reduceEqDiff, Nat.reduceAdd, Nat.reduceMul, Nat.reduceLeDiff, Nat.reduceSub, Nat.reduceLT, Int.reduceToNat, Int.reduceLT, Int.reduceLE, reduceCtorEq]
        exact hP1
    · subst hcc
      simp only [if_true] at heq hK
      by_cases g1 : 1 < q.length
      · have g1' : ((1 : Int) < (q.length : Int)) = True := eq_true (by omega)
        have hf : q[0]? = some (q[0]'(by omega)) := List.getElem?_eq_getElem (by omega)
        have hg : q[q.length - 1]? = some (q[q.length - 1]'(by omega)) := List.getElem?_eq_getElem (by omega)
        obtain ⟨id, off, hrr⟩ := hc1 g1
        obtain ⟨id', off', cap', hra, hid, hrd⟩ := hr1.at cs2 hf
        obtain ⟨id2, off2, cap2, hra', hid', hrd'⟩ := hr1.at cs2 hg
        rw [hrr] at hra hra'
        simp only [Reg.one.injEq, Cell.sl.injEq, true_and] at hra hra'
        obtain ⟨rfl, rfl, rfl, _⟩ := hra
        obtain ⟨rfl, rfl, _, _⟩ := hra'
        rw [Nat.zero_mul, Nat.add_zero] at hrd
        have c5 : IntKind.i64.wrap ((q.length : Int) - 1) = ((q.length - 1 : Nat) : Int) := (wr_eq (by omega) (by omega)).trans (by omega)
        have c6 : (((q.length - 1 : Nat) : Int) < (q.length : Int)) = True := eq_true (by omega)
        have c8 : (0 ≤ ((q.length - 1 : Nat) : Int)) = True := eq_true (by omega)
        have c9 : ((0 : Int) < (q.length : Int)) = True := eq_true (by omega)
        have hde : dropE q = if (q[q.length - 1]'(by omega)) = (q[0]'(by omega)) then dropE (q.take (q.length - 1)) else q := by
          rw [dropE, hf, hg]
          by_cases e : (q[q.length - 1]'(by omega)) = (q[0]'(by omega))
          · rw [if_pos e, dif_pos ⟨g1, by rw [e]⟩]
          · rw [if_neg e, dif_neg (fun h => e (Option.some.inj h.2))]
        have hfront := RL.front (k := q.length - 1) (by rw [← hrr]; exact hr1) (by omega)
        have hbn := bnds_hi (len := q.length) (i := q.length - 1) (by omega)
        generalize (q[0]'(by omega)) = u at *
        generalize (q[q.length - 1]'(by omega)) = v at *
        by_cases e : v = u
        · have heb := pt_eb e
          rw [if_pos e] at hde
          try simp only [r41_0, r41_1, r41_2, r41_3, r41_5, r41_6, r41_4, r41_7, r41_8, r41_9, c41, F41, l41_0, l41_1, q1, hrr, g1', c5, c6, c8, c9, hrd, hrd', heb, hbn, lenO, Int.toNat_natCast, Int.toNat_zero, Int.reduceToNat, Nat.zero_mul, Nat.add_zero, Option.map_none, Option.map_some, Nat.sub_zero, go_sem, Int.reduceTMod, Int.reduceTDiv, Int.reduceDiv, Int.reduceMod, Int.reduceAdd, Int.reduceSub, Int.reduceMul, Int.reduceNeg, Int.reducePow, Int.reduceEq, ↓reduceIte, Nat.reduceEqDiff, Nat.reduceAdd, Nat.reduceMul, Nat.reduceLeDiff, Nat.reduceSub, Nat.reduceLT, Int.reduceToNat, Int.reduceLT, Int.reduceLE, reduceCtorEq]
          repeat' ((first | refine FK_split (fun h_ => ?_) (fun h_ => ?_) | refine GK_split (fun h_ => ?_) (fun h_ => ?_) | refine ite_both (fun h_ => ?_) (fun h_ => ?_)) <;> (try simp only [decide_eq_true_eq, decide_eq_false_iff_not, Bool.not_true, Bool.not_false, Bool.not_eq_true', Bool.not_eq_false', Bool.not_eq_eq_eq_not, Decidable.not_not] at h_) <;> (try simp only [r41_0, r41_1, r41_2, r41_3, r41_5, r41_6, r41_4, r41_7, r41_8, r41_9, c41, F41, l41_0, l41_1, q1, hrr, g1', c5, c6, c8, c9, hrd, hrd', heb, hbn, lenO, Int.toNat_natCast, Int.toNat_zero, Int.reduceToNat, Nat.zero_mul, Nat.add_zero, Option.map_none, Option.map_some, Nat.sub_zero, h_, go_sem, Int.reduceTMod, Int.reduceTDiv, Int.reduceDiv, Int.reduceMod, Int.reduceAdd, Int.reduceSub, Int.reduceMul, Int.reduceNeg, Int.reducePow, Int.reduceEq, ↓reduceIte, Nat.reduceEqDiff, Nat.reduceAdd, Nat.reduceMul, Nat.reduceLeDiff, Nat.reduceSub, Nat.reduceLT, Int.reduceToNat, Int.reduceLT, Int.reduceLE, reduceCtorEq]))
          refine next (q.length - 1) _ (by omega) ⟨?_, rfl, rfl, q.take (q.length - 1), ?_, ?_, ?_, ?_, ?_, ?_⟩
          · simp only [q1, go_sem, Int.reduceTMod, Int.reduceTDiv, Int.reduceDiv, Int.reduceMod, Int.reduceAdd, Int.reduceSub, Int.reduceMul, Int.reduceNeg, Int.reducePow, Int.reduceEq, ↓reduceIte, Nat.reduceEqDiff, Nat.reduceAdd, Nat.reduceMul, Nat.reduceLeDiff, Nat.reduceSub, Nat.reduceLT, Int.reduceToNat, Int.reduceLT, Int.reduceLE, reduceCtorEq]
          · simp only [go_sem, Int.reduceTMod, Int.reduceTDiv, Int.reduceDiv, Int.reduceMod, Int.reduceAdd, Int.reduceSub, Int.reduceMul, Int.reduceNeg, Int.reducePow, Int.reduceEq, ↓reduceIte, Nat.reduceEqDiff, Nat.reduceAdd, Nat.reduceMul, Nat.reduceLeDiff, Nat.reduceSub, Nat.reduceLT, Int.reduceToNat, Int.reduceLT, Int.reduceLE, reduceCtorEq]
            exact hfront
          · intro _
            refine ⟨id, off, ?_⟩
            simp only [go_sem, Int.reduceTMod, Int.reduceTDiv, Int.reduceDiv, Int.reduceMod, Int.reduceAdd, Int.reduceSub, Int.reduceMul, Int.reduceNeg, Int.reducePow, Int.reduceEq, ↓reduceIte, Nat.reduceEqDiff, Nat.reduceAdd, Nat.reduceMul, Nat.reduceLeDiff, Nat.reduceSub, Nat.reduceLT, Int.reduceToNat, Int.reduceLT, Int.reduceLE, reduceCtorEq]
            rw [List.length_take]; congr 2; omega
          · simp only [go_sem, Int.reduceTMod, Int.reduceTDiv, Int.reduceDiv, Int.reduceMod, Int.reduceAdd, Int.reduceSub, Int.reduceMul, Int.reduceNeg, Int.reducePow, Int.reduceEq, ↓reduceIte, Nat.reduceEqDiff, Nat.reduceAdd, Nat.reduceMul, Nat.reduceLeDiff, Nat.reduceSub, Nat.reduceLT, Int.reduceToNat, Int.reduceLT, Int.reduceLE, reduceCtorEq]
            intro j hj
            exact hP1 j (by rw [hrr]; exact hj)
          · rw [List.length_take]; omega
          · rw [List.length_take]; omega
          · rw [if_pos rfl, if_pos rfl, ← hde, heq]
        · have heb := pt_nb e
          rw [if_neg e] at hde
          try simp only [r41_0, r41_1, r41_2, r41_3, r41_5, r41_6, r41_4, r41_7, r41_8, r41_9, c41, F41, l41_0, l41_1, q1, hrr, g1', c5, c6, c8, c9, hrd, hrd', heb, lenO, Int.toNat_natCast, Int.toNat_zero, Int.reduceToNat, Nat.zero_mul, Nat.add_zero, go_sem, Int.reduceTMod, Int.reduceTDiv, Int.reduceDiv, Int.reduceMod, Int.reduceAdd, Int.reduceSub, Int.reduceMul, Int.reduceNeg, Int.reducePow, Int.reduceEq, ↓reduceIte, Nat.reduceEqDiff, Nat.reduceAdd, Nat.reduceMul, Nat.reduceLeDiff, Nat.reduceSub, Nat.reduceLT, Int.reduceToNat, Int.reduceLT, Int.reduceLE, reduceCtorEq]
          repeat' ((first | refine FK_split (fun h_ => ?_) (fun h_ => ?_) | refine GK_split (fun h_ => ?_) (fun h_ => ?_) | refine ite_both (fun h_ => ?_) (fun h_ => ?_)) <;> (try simp only [decide_eq_true_eq, decide_eq_false_iff_not, Bool.not_true, Bool.not_false, Bool.not_eq_true', Bool.not_eq_false', Bool.not_eq_eq_eq_not, Decidable.not_not] at h_) <;> (try simp only [r41_0, r41_1, r41_2, r41_3, r41_5, r41_6, r41_4, r41_7, r41_8, r41_9, c41, F41, l41_0, l41_1, q1, hrr, g1', c5, c6, c8, c9, hrd, hrd', heb, lenO, Int.toNat_natCast, Int.toNat_zero, Int.reduceToNat, Nat.zero_mul, Nat.add_zero, h_, go_sem, Int.reduceTMod, Int.reduceTDiv, Int.reduceDiv, Int.reduceMod, Int.reduceAdd, Int.reduceSub, Int.reduceMul, Int.reduceNeg, Int.reducePow, Int.reduceEq, ↓reduceIte, Nat.reduceEqDiff, Nat.reduceAdd, Nat.reduceMul, Nat.reduceLeDiff, Nat.reduceSub, Nat.reduceLT, Int.reduceToNat, Int.reduceLT, Int.reduceLE, reduceCtorEq]))
          refine hK _ rfl rfl ?_ ?_
          · simp only [go_sem, Int.reduceTMod, Int.reduceTDiv, Int.reduceDiv, Int.reduceMod, Int.reduceAdd, Int.reduceSub, Int.reduceMul, Int.reduceNeg, Int.reducePow, Int.reduceEq, ↓reduceIte, Nat.reduceEqDiff, Nat.reduceAdd, Nat.reduceMul, Nat.reduceLeDiff, Nat.reduceSub, Nat.reduceLT, Int.reduceToNat, Int.reduceLT, Int.reduceLE, reduceCtorEq]
            rw [← heq, hde]
            exact hr1
          · simp only [go_sem, Int.reduceTMod, Int.reduceTDiv, Int.reduceDiv, Int.reduceMod, Int.reduceAdd, Int.reduceSub, Int.reduceMul, Int.reduceNeg, Int.reducePow, Int.reduceEq, ↓reduceIte, Nat.reduceEqDiff, Nat.reduceAdd, Nat.reduceMul, Nat.reduceLeDiff, Nat.reduceSub, Nat.reduceLT, Int.reduceToNat, Int.reduceLT, Int.reduceLE, reduceCtorEq]
            exact hP1
      · have g1' : ((1 : Int) < (q.length : Int)) = False := eq_false (by omega)
        have hde : dropE q = q := by rw [dropE, dif_neg (fun h => g1 h.1)]
        try simp only [r41_0, r41_1, r41_2, r41_3, r41_5, r41_6, r41_4, r41_7, r41_8, r41_9, c41, F41, l41_0, l41_1, q1, hlen, g1', go_sem, Int.reduceTMod, Int.reduceTDiv, Int.reduceDiv, Int.reduceMod, Int.reduceAdd, Int.reduceSub, Int.reduceMul, Int.reduceNeg, Int.reducePow, Int.reduceEq, ↓reduceIte, Nat.reduceEqDiff, Nat.reduceAdd, Nat.reduceMul, Nat.reduceLeDiff, Nat.reduceSub, Nat.reduceLT, Int.reduceToNat, Int.reduceLT, Int.reduceLE, reduceCtorEq]
        repeat' ((first | refine FK_split (fun h_ => ?_) (fun h_ => ?_) | refine GK_split (fun h_ => ?_) (fun h_ => ?_) | refine ite_both (fun h_ => ?_) (fun h_ => ?_)) <;> (try simp only [decide_eq_true_eq, decide_eq_false_iff_not, Bool.not_true, Bool.not_false, Bool.not_eq_true', Bool.not_eq_false', Bool.not_eq_eq_eq_not, Decidable.not_not] at h_) <;> (try simp only [r41_0, r41_1, r41_2, r41_3, r41_5, r41_6, r41_4, r41_7, r41_8, r41_9, c41, F41, l41_0, l41_1, q1, hlen, g1', h_, go_sem, Int.reduceTMod, Int.reduceTDiv, Int.reduceDiv, Int.reduceMod, Int.reduceAdd, Int.reduceSub, Int.reduceMul, Int.reduceNeg, Int.reducePow, Int.reduceEq, ↓reduceIte, Nat.reduceEqDiff, Nat.reduceAdd, Nat.reduceMul, Nat.reduceLeDiff, Nat.reduceSub, Nat.reduceLT, Int.reduceToNat, Int.reduceLT, Int.reduceLE, reduceCtorEq]))
        refine hK _ rfl rfl ?_ ?_
        · simp only [go_sem, Int.reduceTMod, Int.reduceTDiv, Int.reduceDiv, Int.reduceMod, Int.reduceAdd, Int.reduceSub, Int.reduceMul, Int.reduceNeg, Int.reducePow, Int.reduceEq, ↓reduceIte, Nat.reduceEqDiff, Nat.reduceAdd, Nat.reduceMul, Nat.reduceLeDiff, Nat.reduceSub, Nat.reduceLT, Int.reduceToNat, Int.reduceLT, Int.reduceLE, reduceCtorEq]
          rw [← heq, hde]
          exact hr1
        · simp only [go_sem, Int.reduceTMod, Int.reduceTDiv, Int.reduceDiv, Int.reduceMod, Int.reduceAdd, Int.reduceSub, Int.reduceMul, Int.reduceNeg, Int.reducePow, Int.reduceEq, ↓reduceIte, Nat.reduceEqDiff, Nat.reduceAdd, Nat.reduceMul, Nat.reduceLeDiff, Nat.reduceSub, Nat.reduceLT, Int.reduceToNat, Int.reduceLT, Int.reduceLE, reduceCtorEq]
          exact hP1
  · exact ⟨e1, rfl, rfl, p, by simp only [e8]; exact hr, by simp only [e8]; exact hc, by simp only [e8]; exact hP, hl, rfl, rfl⟩
theorem w_PlainC (c : Bool) (r : Reg) (l : List Pt) (m : Mem) (n : Nat) (hr : RPt m n r l) (hl : l.length < 4294967296) :
    Fn TA 41 [r, RB c] m n (fun r' m' n' => n ≤ n' ∧ RPt m' n' r' (plainL l c) ∧ ∀ id, sid r' = some id → n ≤ id) := by
  refine Fn_ofK (fn := F41) rfl (by simp [F41]) ?_
  have hlen := hr.len
  try simp only [r41_0, r41_1, r41_2, r41_3, r41_5, r41_6, r41_4, r41_7, r41_8, r41_9, c41, F41, hlen, go_sem, Int.reduceTMod, Int.reduceTDiv, Int.reduceDiv, Int.reduceMod, Int.reduceAdd, Int.reduceSub, Int.reduceMul, Int.reduceNeg, Int.reducePow, Int.reduceEq, ↓reduceIte, Nat.reduceEqDiff, Nat.reduceAdd, Nat.reduceMul, Nat.reduceLeDiff, Nat.reduceSub, Nat.reduceLT, Int.reduceToNat, Int.reduceLT, Int.reduceLE, reduceCtorEq]
  repeat' ((first | refine FK_split (fun h_ => ?_) (fun h_ => ?_) | refine GK_split (fun h_ => ?_) (fun h_ => ?_) | refine ite_both (fun h_ => ?_) (fun h_ => ?_)) <;> (try simp only [decide_eq_true_eq, decide_eq_false_iff_not, Bool.not_true, Bool.not_false, Bool.not_eq_true', Bool.not_eq_false', Bool.not_eq_eq_eq_not, Decidable.not_not] at h_) <;> (try simp only [r41_0, r41_1, r41_2, r41_3, r41_5, r41_6, r41_4, r41_7, r41_8, r41_9, c41, F41, hlen, h_, go_sem, Int.reduceTMod, Int.reduceTDiv, Int.reduceDiv, Int.reduceMod, Int.reduceAdd, Int.reduceSub, Int.reduceMul, Int.reduceNeg, Int.reducePow, Int.reduceEq, ↓reduceIte, Nat.reduceEqDiff, Nat.reduceAdd, Nat.reduceMul, Nat.reduceLeDiff, Nat.reduceSub, Nat.reduceLT, Int.reduceToNat, Int.reduceLT, Int.reduceLE, reduceCtorEq]))
  refine XK_iter (inv := fun i s => s.e 6 = RI i ∧ s.e 0 = r ∧ s.e 1 = RB c ∧ n ≤ s.n ∧ (∀ id, id < n → s.m id = m id) ∧ OPt n s.m s.n (s.e 5) (pln l i)) l.length
    (fun L _ => ⟨fun i hi s hs next => ?_, fun s hs => ?_⟩) 0 (by omega) _ ?_
  · obtain ⟨e, M, N⟩ := s
    obtain ⟨q6, q0, q1, qn, qm, qo⟩ := hs
    simp only at q6 q0 q1 qn qm qo
    have hp : l[i]? = some l[i] := List.getElem?_eq_getElem hi
    obtain ⟨id, off, cap, hr1, hid, hrd⟩ := hr.at cs2 hp
    have c2 : ((i : Int) < (l.length : Int)) = True := eq_true (by omega)
    have c3 : (0 ≤ (i : Int)) = True := eq_true (by omega)
    have c7 : IntKind.i64.wrap ((i : Int) + 1) = ((i + 1 : Nat) : Int) := wr_nat (by omega)
    rw [hr1] at q0
    rw [← rd_same (qm id hid)] at hrd
    have hidN : id < N := by omega
    have n1 := na_0 hidN
    have hlp := pln_len l i
    by_cases i0 : i = 0
    · have hk := pln_keep hp (Or.inl i0)
      have c0 : ((i : Int) = 0) = True := eq_true (by omega)
      generalize l[i] = p at *
      try simp only [r41_0, r41_1, r41_2, r41_3, r41_5, r41_6, r41_4, r41_7, r41_8, r41_9, c41, F41, l41_0, l41_1, q6, q0, q1, c0, c2, c3, c7, hrd, n1, Int.toNat_natCast, go_sem, Int.reduceTMod, Int.reduceTDiv, Int.reduceDiv, Int.reduceMod, Int.reduceAdd, Int.reduceSub, Int.reduceMul, Int.reduceNeg, Int.reducePow, Int.reduceEq, ↓reduceIte, Nat.reduceEqDiff, Nat.reduceAdd, Nat.reduceMul, Nat.reduceLeDiff, Nat.reduceSub, Nat.reduceLT, Int.reduceToNat, Int.reduceLT, Int.reduceLE, reduceCtorEq]
      repeat' ((first | refine FK_split (fun h_ => ?_) (fun h_ => ?_) | refine GK_split (fun h_ => ?_) (fun h_ => ?_) | refine ite_both (fun h_ => ?_) (fun h_ => ?_)) <;> (try simp only [decide_eq_true_eq, decide_eq_false_iff_not, Bool.not_true, Bool.not_false, Bool.not_eq_true', Bool.not_eq_false', Bool.not_eq_eq_eq_not, Decidable.not_not] at h_) <;> (try simp only [r41_0, r41_1, r41_2, r41_3, r41_5, r41_6, r41_4, r41_7, r41_8, r41_9, c41, F41, l41_0, l41_1, q6, q0, q1, c0, c2, c3, c7, hrd, n1, Int.toNat_natCast, h_, go_sem, Int.reduceTMod, Int.reduceTDiv, Int.reduceDiv, Int.reduceMod, Int.reduceAdd, Int.reduceSub, Int.reduceMul, Int.reduceNeg, Int.reducePow, Int.reduceEq, ↓reduceIte, Nat.reduceEqDiff, Nat.reduceAdd, Nat.reduceMul, Nat.reduceLeDiff, Nat.reduceSub, Nat.reduceLT, Int.reduceToNat, Int.reduceLT, Int.reduceLE, reduceCtorEq]))
      refine K_push cs2 (by decide) (p := p) (o := true) qo (by omega) (fun id h1 h2 => by simp only [na_0 h2, na_ne h2, go_sem, Int.reduceTMod, Int.reduceTDiv, Int.reduceDiv, Int.reduceMod, Int.reduceAdd, Int.reduceSub, Int.reduceMul, Int.reduceNeg, Int.reducePow, Int.reduceEq, ↓reduceIte, Nat.reduceEqDiff, Nat.reduceAdd, Nat.reduceMul, Nat.reduceLeDiff, Nat.reduceSub, Nat.reduceLT, Int.reduceToNat, Int.reduceLT, Int.reduceLE, reduceCtorEq]) (by simp only [go_sem, Int.reduceTMod, Int.reduceTDiv, Int.reduceDiv, Int.reduceMod, Int.reduceAdd, Int.reduceSub, Int.reduceMul, Int.reduceNeg, Int.reducePow, Int.reduceEq, ↓reduceIte, Nat.reduceEqDiff, Nat.reduceAdd, Nat.reduceMul, Nat.reduceLeDiff, Nat.reduceSub, Nat.reduceLT, Int.reduceToNat, Int.reduceLT, Int.reduceLE, reduceCtorEq]) (by omega) (by omega) ?_
      intro r' m' ho h1 h2
      try simp only [r41_0, r41_1, r41_2, r41_3, r41_5, r41_6, r41_4, r41_7, r41_8, r41_9, c41, F41, q6, q0, q1, c7, go_sem, Int.reduceTMod, Int.reduceTDiv, Int.reduceDiv, Int.reduceMod, Int.reduceAdd, Int.reduceSub, Int.reduceMul, Int.reduceNeg, Int.reducePow, Int.reduceEq, ↓reduceIte, Nat.reduceEqDiff, Nat.reduceAdd, Nat.reduceMul, Nat.reduceLeDiff, Nat.reduceSub, Nat.reduceLT, Int.reduceToNat, Int.reduceLT, Int.reduceLE, reduceCtorEq]
      repeat' ((first | refine FK_split (fun h_ => ?_) (fun h_ => ?_) | refine GK_split (fun h_ => ?_) (fun h_ => ?_) | refine ite_both (fun h_ => ?_) (fun h_ => ?_)) <;> (try simp only [decide_eq_true_eq, decide_eq_false_iff_not, Bool.not_true, Bool.not_false, Bool.not_eq_true', Bool.not_eq_false', Bool.not_eq_eq_eq_not, Decidable.not_not] at h_) <;> (try simp only [r41_0, r41_1, r41_2, r41_3, r41_5, r41_6, r41_4, r41_7, r41_8, r41_9, c41, F41, q6, q0, q1, c7, h_, go_sem, Int.reduceTMod, Int.reduceTDiv, Int.reduceDiv, Int.reduceMod, Int.reduceAdd, Int.reduceSub, Int.reduceMul, Int.reduceNeg, Int.reducePow, Int.reduceEq, ↓reduceIte, Nat.reduceEqDiff, Nat.reduceAdd, Nat.reduceMul, Nat.reduceLeDiff, Nat.reduceSub, Nat.reduceLT, Int.reduceToNat, Int.reduceLT, Int.reduceLE, reduceCtorEq]))
      refine next _ ⟨?_, ?_, ?_, ?_, ?_, ?_⟩
      · simp only [go_sem, Int.reduceTMod, Int.reduceTDiv, Int.reduceDiv, Int.reduceMod, Int.reduceAdd, Int.reduceSub, Int.reduceMul, Int.reduceNeg, Int.reducePow, Int.reduceEq, ↓reduceIte, Nat.reduceEqDiff, Nat.reduceAdd, Nat.reduceMul, Nat.reduceLeDiff, Nat.reduceSub, Nat.reduceLT, Int.reduceToNat, Int.reduceLT, Int.reduceLE, reduceCtorEq]
      · simp only [q0, hr1, go_sem, Int.reduceTMod, Int.reduceTDiv, Int.reduceDiv, Int.reduceMod, Int.reduceAdd, Int.reduceSub, Int.reduceMul, Int.reduceNeg, Int.reducePow, Int.reduceEq, ↓reduceIte, Nat.reduceEqDiff, Nat.reduceAdd, Nat.reduceMul, Nat.reduceLeDiff, Nat.reduceSub, Nat.reduceLT, Int.reduceToNat, Int.reduceLT, Int.reduceLE, reduceCtorEq]
      · simp only [q1, go_sem, Int.reduceTMod, Int.reduceTDiv, Int.reduceDiv, Int.reduceMod, Int.reduceAdd, Int.reduceSub, Int.reduceMul, Int.reduceNeg, Int.reducePow, Int.reduceEq, ↓reduceIte, Nat.reduceEqDiff, Nat.reduceAdd, Nat.reduceMul, Nat.reduceLeDiff, Nat.reduceSub, Nat.reduceLT, Int.reduceToNat, Int.reduceLT, Int.reduceLE, reduceCtorEq]
      · simp only [go_sem, Int.reduceTMod, Int.reduceTDiv, Int.reduceDiv, Int.reduceMod, Int.reduceAdd, Int.reduceSub, Int.reduceMul, Int.reduceNeg, Int.reducePow, Int.reduceEq, ↓reduceIte, Nat.reduceEqDiff, Nat.reduceAdd, Nat.reduceMul, Nat.reduceLeDiff, Nat.reduceSub, Nat.reduceLT, Int.reduceToNat, Int.reduceLT, Int.reduceLE, reduceCtorEq]
        omega
      · intro id hid
        simp only
        rw [h1 id hid]
        simp only [na_0 (show id < N by omega), na_ne (show id < N by omega), qm id hid, go_sem, Int.reduceTMod, Int.reduceTDiv, Int.reduceDiv, Int.reduceMod, Int.reduceAdd, Int.reduceSub, Int.reduceMul, Int.reduceNeg, Int.reducePow, Int.reduceEq, ↓reduceIte, Nat.reduceEqDiff, Nat.reduceAdd, Nat.reduceMul, Nat.reduceLeDiff, Nat.reduceSub, Nat.reduceLT, Int.reduceToNat, Int.reduceLT, Int.reduceLE, reduceCtorEq]
      · simp only [go_sem, Int.reduceTMod, Int.reduceTDiv, Int.reduceDiv, Int.reduceMod, Int.reduceAdd, Int.reduceSub, Int.reduceMul, Int.reduceNeg, Int.reducePow, Int.reduceEq, ↓reduceIte, Nat.reduceEqDiff, Nat.reduceAdd, Nat.reduceMul, Nat.reduceLeDiff, Nat.reduceSub, Nat.reduceLT, Int.reduceToNat, Int.reduceLT, Int.reduceLE, reduceCtorEq]
        rw [hk]
        exact ho
    · have hp' : l[i - 1]? = some (l[i - 1]'(by omega)) := List.getElem?_eq_getElem (by omega)
      obtain ⟨id', off', cap', hr1', hid', hrd'⟩ := hr.at cs2 hp'
      rw [hr1] at hr1'
      simp only [Reg.one.injEq, Cell.sl.injEq, true_and] at hr1'
      obtain ⟨rfl, rfl, rfl, _⟩ := hr1'
      rw [← rd_same (qm id hid)] at hrd'
      have c0 : ((i : Int) = 0) = False := eq_false (by omega)
      have c5 : IntKind.i64.wrap ((i : Int) - 1) = ((i - 1 : Nat) : Int) := (wr_eq (by omega) (by omega)).trans (by omega)
      have c6 : (((i - 1 : Nat) : Int) < (l.length : Int)) = True := eq_true (by omega)
      have c8 : (0 ≤ ((i - 1 : Nat) : Int)) = True := eq_true (by omega)
      generalize hgp : l[i] = p at *
      generalize hgq : (l[i - 1]'(by omega)) = q at *
      by_cases e1 : p = q
      · have hk := pln_skip hp i0 (by rw [hp', e1])
        subst e1
        try simp only [r41_0, r41_1, r41_2, r41_3, r41_5, r41_6, r41_4, r41_7, r41_8, r41_9, c41, F41, l41_0, l41_1, q6, q0, q1, c0, c2, c3, c5, c6, c7, c8, hrd, hrd', n1, Int.toNat_natCast, go_sem, Int.reduceTMod, Int.reduceTDiv, Int.reduceDiv, Int.reduceMod, Int.reduceAdd, Int.reduceSub, Int.reduceMul, Int.reduceNeg, Int.reducePow, Int.reduceEq, ↓reduceIte, Nat.reduceEqDiff, Nat.reduceAdd, Nat.reduceMul, Nat.reduceLeDiff, Nat.reduceSub, Nat.reduceLT, Int.reduceToNat, Int.reduceLT, Int.reduceLE, reduceCtorEq]
        repeat' ((first | refine FK_split (fun h_ => ?_) (fun h_ => ?_) | refine GK_split (fun h_ => ?_) (fun h_ => ?_) | refine ite_both (fun h_ => ?_) (fun h_ => ?_)) <;> (try simp only [decide_eq_true_eq, decide_eq_false_iff_not, Bool.not_true, Bool.not_false, Bool.not_eq_true', Bool.not_eq_false', Bool.not_eq_eq_eq_not, Decidable.not_not] at h_) <;> (try simp only [r41_0, r41_1, r41_2, r41_3, r41_5, r41_6, r41_4, r41_7, r41_8, r41_9, c41, F41, l41_0, l41_1, q6, q0, q1, c0, c2, c3, c5, c6, c7, c8, hrd, hrd', n1, Int.toNat_natCast, h_, go_sem, Int.reduceTMod, Int.reduceTDiv, Int.reduceDiv, Int.reduceMod, Int.reduceAdd, Int.reduceSub, Int.reduceMul, Int.reduceNeg, Int.reducePow, Int.reduceEq, ↓reduceIte, Nat.reduceEqDiff, Nat.reduceAdd, Nat.reduceMul, Nat.reduceLeDiff, Nat.reduceSub, Nat.reduceLT, Int.reduceToNat, Int.reduceLT, Int.reduceLE, reduceCtorEq]))
        refine next _ ⟨?_, ?_, ?_, ?_, ?_, ?_⟩
        · simp only [go_sem, Int.reduceTMod, Int.reduceTDiv, Int.reduceDiv, Int.reduceMod, Int.reduceAdd, Int.reduceSub, Int.reduceMul, Int.reduceNeg, Int.reducePow, Int.reduceEq, ↓reduceIte, Nat.reduceEqDiff, Nat.reduceAdd, Nat.reduceMul, Nat.reduceLeDiff, Nat.reduceSub, Nat.reduceLT, Int.reduceToNat, Int.reduceLT, Int.reduceLE, reduceCtorEq]
        · simp only [q0, hr1, go_sem, Int.reduceTMod, Int.reduceTDiv, Int.reduceDiv, Int.reduceMod, Int.reduceAdd, Int.reduceSub, Int.reduceMul, Int.reduceNeg, Int.reducePow, Int.reduceEq, ↓reduceIte, Nat.reduceEqDiff, Nat.reduceAdd, Nat.reduceMul, Nat.reduceLeDiff, Nat.reduceSub, Nat.reduceLT, Int.reduceToNat, Int.reduceLT, Int.reduceLE, reduceCtorEq]
        · simp only [q1, go_sem, Int.reduceTMod, Int.reduceTDiv, Int.reduceDiv, Int.reduceMod, Int.reduceAdd, Int.reduceSub, Int.reduceMul, Int.reduceNeg, Int.reducePow, Int.reduceEq, ↓reduceIte, Nat.reduceEqDiff, Nat.reduceAdd, Nat.reduceMul, Nat.reduceLeDiff, Nat.reduceSub, Nat.reduceLT, Int.reduceToNat, Int.reduceLT, Int.reduceLE, reduceCtorEq]
        · simp only [go_sem, Int.reduceTMod, Int.reduceTDiv, Int.reduceDiv, Int.reduceMod, Int.reduceAdd, Int.reduceSub, Int.reduceMul, Int.reduceNeg, Int.reducePow, Int.reduceEq, ↓reduceIte, Nat.reduceEqDiff, Nat.reduceAdd, Nat.reduceMul, Nat.reduceLeDiff, Nat.reduceSub, Nat.reduceLT, Int.reduceToNat, Int.reduceLT, Int.reduceLE, reduceCtorEq]
          omega
        · exact qm
        · simp only [go_sem, Int.reduceTMod, Int.reduceTDiv, Int.reduceDiv, Int.reduceMod, Int.reduceAdd, Int.reduceSub, Int.reduceMul, Int.reduceNeg, Int.reducePow, Int.reduceEq, ↓reduceIte, Nat.reduceEqDiff, Nat.reduceAdd, Nat.reduceMul, Nat.reduceLeDiff, Nat.reduceSub, Nat.reduceLT, Int.reduceToNat, Int.reduceLT, Int.reduceLE, reduceCtorEq]
          rw [hk]
          exact qo
      · have hk := pln_keep hp (Or.inr (by rw [hp']; intro h; exact e1 (Option.some.inj h).symm))
        have hne := pt_nb e1
        try simp only [r41_0, r41_1, r41_2, r41_3, r41_5, r41_6, r41_4, r41_7, r41_8, r41_9, c41, F41, l41_0, l41_1, q6, q0, q1, c0, c2, c3, c5, c6, c7, c8, hrd, hrd', n1, hne, Int.toNat_natCast, go_sem, Int.reduceTMod, Int.reduceTDiv, Int.reduceDiv, Int.reduceMod, Int.reduceAdd, Int.reduceSub, Int.reduceMul, Int.reduceNeg, Int.reducePow, Int.reduceEq, ↓reduceIte, Nat.reduceEqDiff, Nat.reduceAdd, Nat.reduceMul, Nat.reduceLeDiff, Nat.reduceSub, Nat.reduceLT, Int.reduceToNat, Int.reduceLT, Int.reduceLE, reduceCtorEq]
        repeat' ((first | refine FK_split (fun h_ => ?_) (fun h_ => ?_) | refine GK_split (fun h_ => ?_) (fun h_ => ?_) | refine ite_both (fun h_ => ?_) (fun h_ => ?_)) <;> (try simp only [decide_eq_true_eq, decide_eq_false_iff_not, Bool.not_true, Bool.not_false, Bool.not_eq_true', Bool.not_eq_false', Bool.not_eq_eq_eq_not, Decidable.not_not] at h_) <;> (try simp only [r41_0, r41_1, r41_2, r41_3, r41_5, r41_6, r41_4, r41_7, r41_8, r41_9, c41, F41, l41_0, l41_1, q6, q0, q1, c0, c2, c3, c5, c6, c7, c8, hrd, hrd', n1, hne, Int.toNat_natCast, h_, go_sem, Int.reduceTMod, Int.reduceTDiv, Int.reduceDiv, Int.reduceMod, Int.reduceAdd, Int.reduceSub, Int.reduceMul, Int.reduceNeg, Int.reducePow, Int.reduceEq, ↓reduceIte, Nat.reduceEqDiff, Nat.reduceAdd, Nat.reduceMul, Nat.reduceLeDiff, Nat.reduceSub, Nat.reduceLT, Int.reduceToNat, Int.reduceLT, Int.reduceLE, reduceCtorEq]))
        refine K_push cs2 (by decide) (p := p) (o := true) qo (by omega) (fun id h1 h2 => by simp only [na_0 h2, na_ne h2, go_sem, Int.reduceTMod, Int.reduceTDiv, Int.reduceDiv, Int.reduceMod, Int.reduceAdd, Int.reduceSub, Int.reduceMul, Int.reduceNeg, Int.reducePow, Int.reduceEq, ↓reduceIte, Nat.reduceEqDiff, Nat.reduceAdd, Nat.reduceMul, Nat.reduceLeDiff, Nat.reduceSub, Nat.reduceLT, Int.reduceToNat, Int.reduceLT, Int.reduceLE, reduceCtorEq]) (by simp only [go_sem, Int.reduceTMod, Int.reduceTDiv, Int.reduceDiv, Int.reduceMod, Int.reduceAdd, Int.reduceSub, Int.reduceMul, Int.reduceNeg, Int.reducePow, Int.reduceEq, ↓reduceIte, Nat.reduceEqDiff, Nat.reduceAdd, Nat.reduceMul, Nat.reduceLeDiff, Nat.reduceSub, Nat.reduceLT, Int.reduceToNat, Int.reduceLT, Int.reduceLE, reduceCtorEq]) (by omega) (by omega) ?_
        intro r' m' ho h1 h2
        try simp only [r41_0, r41_1, r41_2, r41_3, r41_5, r41_6, r41_4, r41_7, r41_8, r41_9, c41, F41, q6, q0, q1, c7, go_sem, Int.reduceTMod, Int.reduceTDiv, Int.reduceDiv, Int.reduceMod, Int.reduceAdd, Int.reduceSub, Int.reduceMul, Int.reduceNeg, Int.reducePow, Int.reduceEq, ↓reduceIte, Nat.reduceEqDiff, Nat.reduceAdd, Nat.reduceMul, Nat.reduceLeDiff, Nat.reduceSub, Nat.reduceLT, Int.reduceToNat, Int.reduceLT, Int.reduceLE, reduceCtorEq]
        repeat' ((first | refine FK_split (fun h_ => ?_) (fun h_ => ?_) | refine GK_split (fun h_ => ?_) (fun h_ => ?_) | refine ite_both (fun h_ => ?_) (fun h_ => ?_)) <;> (try simp only [decide_eq_true_eq, decide_eq_false_iff_not, Bool.not_true, Bool.not_false, Bool.not_eq_true', Bool.not_eq_false', Bool.not_eq_eq_eq_not, Decidable.not_not] at h_) <;> (try simp only [r41_0, r41_1, r41_2, r41_3, r41_5, r41_6, r41_4, r41_7, r41_8, r41_9, c41, F41, q6, q0, q1, c7, h_, go_sem, Int.reduceTMod, Int.reduceTDiv, Int.reduceDiv, Int.reduceMod, Int.reduceAdd, Int.reduceSub, Int.reduceMul, Int.reduceNeg, Int.reducePow, Int.reduceEq, ↓reduceIte, Nat.reduceEqDiff, Nat.reduceAdd, Nat.reduceMul, Nat.reduceLeDiff, Nat.reduceSub, Nat.reduceLT, Int.reduceToNat, Int.reduceLT, Int.reduceLE, reduceCtorEq]))
        refine next _ ⟨?_, ?_, ?_, ?_, ?_, ?_⟩
        · simp only [go_sem, Int.reduceTMod, Int.reduceTDiv, Int.reduceDiv, Int.reduceMod, Int.reduceAdd, Int.reduceSub, Int.reduceMul, Int.reduceNeg, Int.reducePow, Int.reduceEq, ↓reduceIte, Nat.reduceEqDiff, Nat.reduceAdd, Nat.reduceMul, Nat.reduceLeDiff, Nat.reduceSub, Nat.reduceLT, Int.reduceToNat, Int.reduceLT, Int.reduceLE, reduceCtorEq]
        · simp only [q0, hr1, go_sem, Int.reduceTMod, Int.reduceTDiv, Int.reduceDiv, Int.reduceMod, Int.reduceAdd, Int.reduceSub, Int.reduceMul, Int.reduceNeg, Int.reducePow, Int.reduceEq, ↓reduceIte, Nat.reduceEqDiff, Nat.reduceAdd, Nat.reduceMul, Nat.reduceLeDiff, Nat.reduceSub, Nat.reduceLT, Int.reduceToNat, Int.reduceLT, Int.reduceLE, reduceCtorEq]
        · simp only [q1, go_sem, Int.reduceTMod, Int.reduceTDiv, Int.reduceDiv, Int.reduceMod, Int.reduceAdd, Int.reduceSub, Int.reduceMul, Int.reduceNeg, Int.reducePow, Int.reduceEq, ↓reduceIte, Nat.reduceEqDiff, Nat.reduceAdd, Nat.reduceMul, Nat.reduceLeDiff, Nat.reduceSub, Nat.reduceLT, Int.reduceToNat, Int.reduceLT, Int.reduceLE, reduceCtorEq]
        · simp only [go_sem, Int.reduceTMod, Int.reduceTDiv, Int.reduceDiv, Int.reduceMod, Int.reduceAdd, Int.reduceSub, Int.reduceMul, Int.reduceNeg, Int.reducePow, Int.reduceEq, ↓reduceIte, Nat.reduceEqDiff, Nat.reduceAdd, Nat.reduceMul, Nat.reduceLeDiff, Nat.reduceSub, Nat.reduceLT, Int.reduceToNat, Int.reduceLT, Int.reduceLE, reduceCtorEq]
          omega
        · intro id hid
          simp only
          rw [h1 id hid]
          simp only [na_0 (show id < N by omega), na_ne (show id < N by omega), qm id hid, go_sem, Int.reduceTMod, Int.reduceTDiv, Int.reduceDiv, Int.reduceMod, Int.reduceAdd, Int.reduceSub, Int.reduceMul, Int.reduceNeg, Int.reducePow, Int.reduceEq, ↓reduceIte, Nat.reduceEqDiff, Nat.reduceAdd, Nat.reduceMul, Nat.reduceLeDiff, Nat.reduceSub, Nat.reduceLT, Int.reduceToNat, Int.reduceLT, Int.reduceLE, reduceCtorEq]
        · simp only [go_sem, Int.reduceTMod, Int.reduceTDiv, Int.reduceDiv, Int.reduceMod, Int.reduceAdd, Int.reduceSub, Int.reduceMul, Int.reduceNeg, Int.reducePow, Int.reduceEq, ↓reduceIte, Nat.reduceEqDiff, Nat.reduceAdd, Nat.reduceMul, Nat.reduceLeDiff, Nat.reduceSub, Nat.reduceLT, Int.reduceToNat, Int.reduceLT, Int.reduceLE, reduceCtorEq]
          rw [hk]
          exact ho
  · obtain ⟨e, M, N⟩ := s
    obtain ⟨q6, q0, q1, qn, qm, qo⟩ := hs
    simp only at q6 q0 q1 qn qm qo
    have c2 : ((l.length : Int) < (l.length : Int)) = False := eq_false (by omega)
    have ht : List.take l.length l = l := List.take_length
    try simp only [r41_0, r41_1, r41_2, r41_3, r41_5, r41_6, r41_4, r41_7, r41_8, r41_9, c41, F41, l41_0, l41_1, q6, q0, q1, hlen, c2, go_sem, Int.reduceTMod, Int.reduceTDiv, Int.reduceDiv, Int.reduceMod, Int.reduceAdd, Int.reduceSub, Int.reduceMul, Int.reduceNeg, Int.reducePow, Int.reduceEq, ↓reduceIte, Nat.reduceEqDiff, Nat.reduceAdd, Nat.reduceMul, Nat.reduceLeDiff, Nat.reduceSub, Nat.reduceLT, Int.reduceToNat, Int.reduceLT, Int.reduceLE, reduceCtorEq]
    repeat' ((first | refine FK_split (fun h_ => ?_) (fun h_ => ?_) | refine GK_split (fun h_ => ?_) (fun h_ => ?_) | refine ite_both (fun h_ => ?_) (fun h_ => ?_)) <;> (try simp only [decide_eq_true_eq, decide_eq_false_iff_not, Bool.not_true, Bool.not_false, Bool.not_eq_true', Bool.not_eq_false', Bool.not_eq_eq_eq_not, Decidable.not_not] at h_) <;> (try simp only [r41_0, r41_1, r41_2, r41_3, r41_5, r41_6, r41_4, r41_7, r41_8, r41_9, c41, F41, l41_0, l41_1, q6, q0, q1, hlen, c2, h_, go_sem, Int.reduceTMod, Int.reduceTDiv, Int.reduceDiv, Int.reduceMod, Int.reduceAdd, Int.reduceSub, Int.reduceMul, Int.reduceNeg, Int.reducePow, Int.reduceEq, ↓reduceIte, Nat.reduceEqDiff, Nat.reduceAdd, Nat.reduceMul, Nat.reduceLeDiff, Nat.reduceSub, Nat.reduceLT, Int.reduceToNat, Int.reduceLT, Int.reduceLE, reduceCtorEq]))
    have hplen := pln_len l l.length
    refine rdrop_loop (c := c) (P := fun id => n ≤ id) (qo.rl cs2) (by omega) (fun hlt => ?_) (fun id hid => ?_) ?_ ?_ (fun s sm sn sr sP => ?_)
    · rcases qo with ⟨_, e⟩ | ⟨id, e1, _⟩
      · rw [e] at hlt; cases hlt
      · exact ⟨id, 0, e1⟩
    · exact (qo.sidlt hid).1
    · simp only [q1, go_sem, Int.reduceTMod, Int.reduceTDiv, Int.reduceDiv, Int.reduceMod, Int.reduceAdd, Int.reduceSub, Int.reduceMul, Int.reduceNeg, Int.reducePow, Int.reduceEq, ↓reduceIte, Nat.reduceEqDiff, Nat.reduceAdd, Nat.reduceMul, Nat.reduceLeDiff, Nat.reduceSub, Nat.reduceLT, Int.reduceToNat, Int.reduceLT, Int.reduceLE, reduceCtorEq]
    · simp only [go_sem, Int.reduceTMod, Int.reduceTDiv, Int.reduceDiv, Int.reduceMod, Int.reduceAdd, Int.reduceSub, Int.reduceMul, Int.reduceNeg, Int.reducePow, Int.reduceEq, ↓reduceIte, Nat.reduceEqDiff, Nat.reduceAdd, Nat.reduceMul, Nat.reduceLeDiff, Nat.reduceSub, Nat.reduceLT, Int.reduceToNat, Int.reduceLT, Int.reduceLE, reduceCtorEq]
    · skip
      try simp only [r41_0, r41_1, r41_2, r41_3, r41_5, r41_6, r41_4, r41_7, r41_8, r41_9, c41, F41, go_sem, Int.reduceTMod, Int.reduceTDiv, Int.reduceDiv, Int.reduceMod, Int.reduceAdd, Int.reduceSub, Int.reduceMul, Int.reduceNeg, Int.reducePow, Int.reduceEq, ↓reduceIte, Nat.reduceEqDiff, Nat.reduceAdd, Nat.reduceMul, Nat.reduceLeDiff, Nat.reduceSub, Nat.reduceLT, Int.reduceToNat, Int.reduceLT, Int.reduceLE, reduceCtorEq]
      repeat' ((first | refine FK_split (fun h_ => ?_) (fun h_ => ?_) | refine GK_split (fun h_ => ?_) (fun h_ => ?_) | refine ite_both (fun h_ => ?_) (fun h_ => ?_)) <;> (try simp only [decide_eq_true_eq, decide_eq_false_iff_not, Bool.not_true, Bool.not_false, Bool.not_eq_true', Bool.not_eq_false', Bool.not_eq_eq_eq_not, Decidable.not_not] at h_) <;> (try simp only [r41_0, r41_1, r41_2, r41_3, r41_5, r41_6, r41_4, r41_7, r41_8, r41_9, c41, F41, h_, go_sem, Int.reduceTMod, Int.reduceTDiv, Int.reduceDiv, Int.reduceMod, Int.reduceAdd, Int.reduceSub, Int.reduceMul, Int.reduceNeg, Int.reducePow, Int.reduceEq, ↓reduceIte, Nat.reduceEqDiff, Nat.reduceAdd, Nat.reduceMul, Nat.reduceLeDiff, Nat.reduceSub, Nat.reduceLT, Int.reduceToNat, Int.reduceLT, Int.reduceLE, reduceCtorEq]))
      rw [show (if c = true then dropE (pln l l.length) else pln l l.length) = plainL l c from rfl] at sr
      exact ⟨by omega, by rw [sm, sn]; rw [sm, sn] at *; exact sr, sP⟩
  · simp only [go_sem, Int.reduceTMod, Int.reduceTDiv, Int.reduceDiv, Int.reduceMod, Int.reduceAdd, Int.reduceSub, Int.reduceMul, Int.reduceNeg, Int.reducePow, Int.reduceEq, ↓reduceIte, Nat.reduceEqDiff, Nat.reduceAdd, Nat.reduceMul, Nat.reduceLeDiff, Nat.reduceSub, Nat.reduceLT, Int.reduceToNat, Int.reduceLT, Int.reduceLE, reduceCtorEq]
    exact ⟨by omega, fun _ _ => trivial, OL.nil⟩

/- Rows of polygons grow: the reference's. Conditions: those that each theorem names. -/
open Go Go.Proofs
set_option linter.unusedSimpArgs false
set_option linter.unusedVariables false

theorem row_push {T : Nat → Option SFun} {p N by' : Nat} {M : Mem} {r0 : Reg} {ls : List (List Pt)} {x : Cell} {l : List Pt} {d : Option Nat} {os : List SOper} {e : Nat → Reg} {k : Kt}
    (ho : OPs p p p M N r0 ls) (hp : p < N) (hx : RPt M N (.one x) l) (hxs : ∀ id, sid (.one x) = some id → p + 1 ≤ id ∧ sid r0 ≠ some id) (hsm : ls.length < 4294967295)
    (next : ∀ c m', OPs p p p m' (N + 2) (.one c) (ls ++ [l]) → (∀ id, id ≤ p → m' id = M id) → RK T os (putE e d (.one c)) m' (N + 2) k) :
    ThenK T d os e k (evApp (upd M N (some ⟨[x], true⟩)) (N + 1) 1 by' r0 (.one (.sl N 0 1 (some 1) 1))) := by
  obtain ⟨cs, ho1, ho0, ho2, ho3⟩ := ho
  refine K_push2 cc1 (by decide) (p := x) (o := true) ho1 (by omega) (fun id h1 h2 => upd_ne _ _ (by omega)) (by rw [upd_same]; rfl) (by omega) (by omega) ?_
  intro c m' ho' h1 h2
  have hfr : ∀ id, id < N → sid r0 ≠ some id → m' id = M id := fun id k1 k2 => by rw [h1 id (by omega) k2, upd_ne _ _ (by omega)]
  refine next c m' ?_ (fun id hid => hfr id (by omega) (fun e => by have := ho1.sidlt e; omega))
  exact OPs.snoc ho2 ho3 hx (fun j hj => ⟨by have := hxs j hj; omega, (hxs j hj).2⟩) ho' hp hp (by omega) (fun id k => by have := h2 id k; omega) (fun id _ k2 k3 => hfr id k2 k3)
theorem row_after {p N n1 : Nat} {M m1 : Mem} {r0 : Reg} {ls : List (List Pt)} {x : Cell} {l : List Pt} (ho : OPs p p p M N r0 ls) (hp : p < N) (h1 : RPt m1 n1 (.one x) l) (h2 : ∀ id, sid (.one x) = some id → N ≤ id) :
    OPs p p p (unfrz M N m1) (max N n1) r0 ls ∧ RPt (unfrz M N m1) (max N n1) (.one x) l ∧ ∀ id, sid (.one x) = some id → p + 1 ≤ id ∧ sid r0 ≠ some id := by
  have hk := ho
  obtain ⟨cs, ho1, _⟩ := hk
  refine ⟨ho.keep (by omega) (fun id _ h _ _ => by rw [unfrz_at, if_pos h]), h1.keep' (by omega) (fun id hid => by rw [unfrz_at, if_neg (by have := h2 id hid; omega)]), fun id hid => ⟨by have := h2 id hid; omega, fun e => ?_⟩⟩
  have := ho1.sidlt e
  have := h2 id hid
  omega
theorem OPs.nil {p u v : Nat} {m : Mem} {n : Nat} : OPs p u v m n rnil [] := ⟨[], OL.nil, fun j hj => (by cases hj), rfl, fun i l hi => (by simp at hi)⟩
set_option maxHeartbeats 1000000 in
theorem rdiscs_loop {K : Kt} {p : Nat} {h : Int} {ls : List (List Pt)} {m : Mem} {n : Nat} {r ro : Reg} {l : List Pt} {c : Bool} {cp : Int} (hO : OPs p p p m n ro ls) (hpn : p < n) (hr : RPt m n r l) (hb : ∀ id, sid r = some id → id ≤ p)
    (h1 : 1 ≤ h) (h2 : h ≤ 32768) (hin : l.all inP = true) (hl2 : 2 ≤ l.length) (hl : l.length < 1000000) (hls : ls.length < 100000000) {e : Nat → Reg} (e0 : e 0 = r) (e1 : e 1 = RB c) (e2 : e 2 = RI h) (e3 : e 3 = RI cp) (e10 : e 10 = ro) (e11 : e 11 = RI l.length) (e15 : e 15 = RI 0)
    (hK : ∀ s, n ≤ s.n → (∀ id, id ≤ p → s.m id = m id) → s.e 0 = r → s.e 1 = RB c → s.e 2 = RI h → s.e 3 = RI cp → s.e 11 = RI l.length → OPs p p p s.m s.n (s.e 10) (ls ++ (discsTo h l c l.length).map (·.2)) → KX TA K 2 s) :
    XK TA (.loop l18_1) ⟨e, m, n⟩ K := by
  refine XK_iter (inv := fun i s => s.e 15 = RI i ∧ s.e 0 = r ∧ s.e 1 = RB c ∧ s.e 2 = RI h ∧ s.e 3 = RI cp ∧ s.e 11 = RI l.length ∧ n ≤ s.n ∧ (∀ id, id ≤ p → s.m id = m id) ∧ OPs p p p s.m s.n (s.e 10) (ls ++ (discsTo h l c i).map (·.2))) l.length
    (fun L _ => ⟨fun i hi s hs next => ?_, fun s hs => ?_⟩) 0 (by omega) _ ?_
  · obtain ⟨e, M, N⟩ := s
    obtain ⟨q15, q0, q1, q2, q3, q11, qn, qm, hO1⟩ := hs
    simp only at q15 q0 q1 q2 q3 q11 qn qm hO1
    have hr1 : RPt M N r l := hr.keep' qn (fun id hid => qm id (hb id hid))
    have hp : l[i]? = some l[i] := List.getElem?_eq_getElem (by omega)
    obtain ⟨id, off, cap, hra, hid, hrd⟩ := hr1.at cs2 hp
    have ip := all_at hin hp
    have c1 : ((1 : Int) < (l.length : Int)) = True := eq_true (by omega)
    have c2 : ((i : Int) < (l.length : Int)) = True := eq_true (by omega)
    have c3 : (0 ≤ (i : Int)) = True := eq_true (by omega)
    have c5 : IntKind.i64.wrap ((l.length : Int) - 1) = (l.length : Int) - 1 := wr_eq (by omega) (by omega)
    have c7 : IntKind.i64.wrap ((i : Int) + 1) = ((i + 1 : Nat) : Int) := wr_nat (by omega)
    have hdl := discsTo_len h l c i
    have hdt : discsTo h l c (i + 1) = discsTo h l c i ++ (if c = true ∨ (0 < i ∧ i + 1 < l.length) then [discI h l[i]] else []) := by
      rw [discsTo, discAt, hp]
    generalize l[i] = u at *
    rw [hra] at q0
    by_cases g : c = true ∨ (0 < i ∧ i + 1 < l.length)
    · rw [if_pos g] at hdt
      cases hcc : c
      · have g' : 0 < i ∧ i + 1 < l.length := by rcases g with g | g; (rw [hcc] at g; cases g); exact g
        have g0' : ((0 : Int) < (i : Int)) = True := eq_true (by omega)
        have g1 : ((i : Int) < (l.length : Int) - 1) = True := eq_true (by omega)
        subst hcc
        try simp only [r18_0, r18_1, r18_2, r18_3, r18_4, r18_5, r18_6, r18_7, r18_8, r18_9, r18_10, r18_12, r18_13, r18_14, r18_15, r18_16, r18_11, r18_17, r18_18, r18_20, r18_21, r18_19, r18_22, r18_23, r18_24, r18_25, r18_26, r18_27, r18_29, r18_30, r18_28, r18_31, c18, F18, l18_0, l18_1, l18_2, q15, q0, q1, q2, q3, q11, c1, c2, c3, c5, g0', g1, hrd, Int.toNat_natCast, go_sem, Int.reduceTMod, Int.reduceTDiv, Int.reduceDiv, Int.reduceMod, Int.reduceAdd, Int.reduceSub, Int.reduceMul, Int.reduceNeg, Int.reducePow, Int.reduceEq, ↓reduceIte, Nat.reduceEqDiff, Nat.reduceAdd, Nat.reduceMul, Nat.reduceLeDiff, Nat.reduceSub, Nat.reduceLT, Int.reduceToNat, Int.reduceLT, Int.reduceLE, reduceCtorEq]
        repeat' ((first | refine FK_split (fun h_ => ?_) (fun h_ => ?_) | refine GK_split (fun h_ => ?_) (fun h_ => ?_) | refine ite_both (fun h_ => ?_) (fun h_ => ?_)) <;> (try simp only [decide_eq_true_eq, decide_eq_false_iff_not, Bool.not_true, Bool.not_false, Bool.not_eq_true', Bool.not_eq_false', Bool.not_eq_eq_eq_not, Decidable.not_not] at h_) <;> (try simp only [r18_0, r18_1, r18_2, r18_3, r18_4, r18_5, r18_6, r18_7, r18_8, r18_9, r18_10, r18_12, r18_13, r18_14, r18_15, r18_16, r18_11, r18_17, r18_18, r18_20, r18_21, r18_19, r18_22, r18_23, r18_24, r18_25, r18_26, r18_27, r18_29, r18_30, r18_28, r18_31, c18, F18, l18_0, l18_1, l18_2, q15, q0, q1, q2, q3, q11, c1, c2, c3, c5, g0', g1, hrd, Int.toNat_natCast, h_, go_sem, Int.reduceTMod, Int.reduceTDiv, Int.reduceDiv, Int.reduceMod, Int.reduceAdd, Int.reduceSub, Int.reduceMul, Int.reduceNeg, Int.reducePow, Int.reduceEq, ↓reduceIte, Nat.reduceEqDiff, Nat.reduceAdd, Nat.reduceMul, Nat.reduceLeDiff, Nat.reduceSub, Nat.reduceLT, Int.reduceToNat, Int.reduceLT, Int.reduceLE, reduceCtorEq]))
        refine RK_callk ?_
        refine (w_rDiscP ip h1 h2 _ _).mono ?_
        rintro r1 m1 n1 ⟨hn1, x, rfl, hx, hxi⟩
        obtain ⟨hO2, hx2, hx3⟩ := row_after hO1 (by omega) hx hxi
        try simp only [r18_0, r18_1, r18_2, r18_3, r18_4, r18_5, r18_6, r18_7, r18_8, r18_9, r18_10, r18_12, r18_13, r18_14, r18_15, r18_16, r18_11, r18_17, r18_18, r18_20, r18_21, r18_19, r18_22, r18_23, r18_24, r18_25, r18_26, r18_27, r18_29, r18_30, r18_28, r18_31, c18, F18, go_sem, Int.reduceTMod, Int.reduceTDiv, Int.reduceDiv, Int.reduceMod, Int.reduceAdd, Int.reduceSub, Int.reduceMul, Int.reduceNeg, Int.reducePow, Int.reduceEq, ↓reduceIte, Nat.reduceEqDiff, Nat.reduceAdd, Nat.reduceMul, Nat.reduceLeDiff, Nat.reduceSub, Nat.reduceLT, Int.reduceToNat, Int.reduceLT, Int.reduceLE, reduceCtorEq]
        repeat' ((first | refine FK_split (fun h_ => ?_) (fun h_ => ?_) | refine GK_split (fun h_ => ?_) (fun h_ => ?_) | refine ite_both (fun h_ => ?_) (fun h_ => ?_)) <;> (try simp only [decide_eq_true_eq, decide_eq_false_iff_not, Bool.not_true, Bool.not_false, Bool.not_eq_true', Bool.not_eq_false', Bool.not_eq_eq_eq_not, Decidable.not_not] at h_) <;> (try simp only [r18_0, r18_1, r18_2, r18_3, r18_4, r18_5, r18_6, r18_7, r18_8, r18_9, r18_10, r18_12, r18_13, r18_14, r18_15, r18_16, r18_11, r18_17, r18_18, r18_20, r18_21, r18_19, r18_22, r18_23, r18_24, r18_25, r18_26, r18_27, r18_29, r18_30, r18_28, r18_31, c18, F18, h_, go_sem, Int.reduceTMod, Int.reduceTDiv, Int.reduceDiv, Int.reduceMod, Int.reduceAdd, Int.reduceSub, Int.reduceMul, Int.reduceNeg, Int.reducePow, Int.reduceEq, ↓reduceIte, Nat.reduceEqDiff, Nat.reduceAdd, Nat.reduceMul, Nat.reduceLeDiff, Nat.reduceSub, Nat.reduceLT, Int.reduceToNat, Int.reduceLT, Int.reduceLE, reduceCtorEq]))
        refine row_push hO2 (by omega) hx2 hx3 (by rw [List.length_append, List.length_map]; omega) ?_
        intro c' m' hO3 hf
        try simp only [r18_0, r18_1, r18_2, r18_3, r18_4, r18_5, r18_6, r18_7, r18_8, r18_9, r18_10, r18_12, r18_13, r18_14, r18_15, r18_16, r18_11, r18_17, r18_18, r18_20, r18_21, r18_19, r18_22, r18_23, r18_24, r18_25, r18_26, r18_27, r18_29, r18_30, r18_28, r18_31, c18, F18, q15, q0, q1, q2, q3, q11, c7, go_sem, Int.reduceTMod, Int.reduceTDiv, Int.reduceDiv, Int.reduceMod, Int.reduceAdd, Int.reduceSub, Int.reduceMul, Int.reduceNeg, Int.reducePow, Int.reduceEq, ↓reduceIte, Nat.reduceEqDiff, Nat.reduceAdd, Nat.reduceMul, Nat.reduceLeDiff, Nat.reduceSub, Nat.reduceLT, Int.reduceToNat, Int.reduceLT, Int.reduceLE, reduceCtorEq]
        repeat' ((first | refine FK_split (fun h_ => ?_) (fun h_ => ?_) | refine GK_split (fun h_ => ?_) (fun h_ => ?_) | refine ite_both (fun h_ => ?_) (fun h_ => ?_)) <;> (try simp only [decide_eq_true_eq, decide_eq_false_iff_not, Bool.not_true, Bool.not_false, Bool.not_eq_true', Bool.not_eq_false', Bool.not_eq_eq_eq_not, Decidable.not_not] at h_) <;> (try simp only [r18_0, r18_1, r18_2, r18_3, r18_4, r18_5, r18_6, r18_7, r18_8, r18_9, r18_10, r18_12, r18_13, r18_14, r18_15, r18_16, r18_11, r18_17, r18_18, r18_20, r18_21, r18_19, r18_22, r18_23, r18_24, r18_25, r18_26, r18_27, r18_29, r18_30, r18_28, r18_31, c18, F18, q15, q0, q1, q2, q3, q11, c7, h_, go_sem, Int.reduceTMod, Int.reduceTDiv, Int.reduceDiv, Int.reduceMod, Int.reduceAdd, Int.reduceSub, Int.reduceMul, Int.reduceNeg, Int.reducePow, Int.reduceEq, ↓reduceIte, Nat.reduceEqDiff, Nat.reduceAdd, Nat.reduceMul, Nat.reduceLeDiff, Nat.reduceSub, Nat.reduceLT, Int.reduceToNat, Int.reduceLT, Int.reduceLE, reduceCtorEq]))
        refine next _ ⟨?_, ?_, ?_, ?_, ?_, ?_, ?_, ?_, ?_⟩
        · simp only [go_sem, Int.reduceTMod, Int.reduceTDiv, Int.reduceDiv, Int.reduceMod, Int.reduceAdd, Int.reduceSub, Int.reduceMul, Int.reduceNeg, Int.reducePow, Int.reduceEq, ↓reduceIte, Nat.reduceEqDiff, Nat.reduceAdd, Nat.reduceMul, Nat.reduceLeDiff, Nat.reduceSub, Nat.reduceLT, Int.reduceToNat, Int.reduceLT, Int.reduceLE, reduceCtorEq]
        · simp only [q0, hra, go_sem, Int.reduceTMod, Int.reduceTDiv, Int.reduceDiv, Int.reduceMod, Int.reduceAdd, Int.reduceSub, Int.reduceMul, Int.reduceNeg, Int.reducePow, Int.reduceEq, ↓reduceIte, Nat.reduceEqDiff, Nat.reduceAdd, Nat.reduceMul, Nat.reduceLeDiff, Nat.reduceSub, Nat.reduceLT, Int.reduceToNat, Int.reduceLT, Int.reduceLE, reduceCtorEq]
        · simp only [q1, go_sem, Int.reduceTMod, Int.reduceTDiv, Int.reduceDiv, Int.reduceMod, Int.reduceAdd, Int.reduceSub, Int.reduceMul, Int.reduceNeg, Int.reducePow, Int.reduceEq, ↓reduceIte, Nat.reduceEqDiff, Nat.reduceAdd, Nat.reduceMul, Nat.reduceLeDiff, Nat.reduceSub, Nat.reduceLT, Int.reduceToNat, Int.reduceLT, Int.reduceLE, reduceCtorEq]
        · simp only [q2, go_sem, Int.reduceTMod, Int.reduceTDiv, Int.reduceDiv, Int.reduceMod, Int.reduceAdd, Int.reduceSub, Int.reduceMul, Int.reduceNeg, Int.reducePow, Int.reduceEq, ↓reduceIte, Nat.reduceEqDiff, Nat.reduceAdd, Nat.reduceMul, Nat.reduceLeDiff, Nat.reduceSub, Nat.reduceLT, Int.reduceToNat, Int.reduceLT, Int.reduceLE, reduceCtorEq]
        · simp only [q3, go_sem, Int.reduceTMod, Int.reduceTDiv, Int.reduceDiv, Int.reduceMod, Int.reduceAdd, Int.reduceSub, Int.reduceMul, Int.reduceNeg, Int.reducePow, Int.reduceEq, ↓reduceIte, Nat.reduceEqDiff, Nat.reduceAdd, Nat.reduceMul, Nat.reduceLeDiff, Nat.reduceSub, Nat.reduceLT, Int.reduceToNat, Int.reduceLT, Int.reduceLE, reduceCtorEq]
        · simp only [q11, go_sem, Int.reduceTMod, Int.reduceTDiv, Int.reduceDiv, Int.reduceMod, Int.reduceAdd, Int.reduceSub, Int.reduceMul, Int.reduceNeg, Int.reducePow, Int.reduceEq, ↓reduceIte, Nat.reduceEqDiff, Nat.reduceAdd, Nat.reduceMul, Nat.reduceLeDiff, Nat.reduceSub, Nat.reduceLT, Int.reduceToNat, Int.reduceLT, Int.reduceLE, reduceCtorEq]
        · simp only; omega
        · intro j hj
          simp only
          rw [hf j hj, unfrz_at, if_pos (by omega)]
          exact qm j hj
        · rw [hdt, List.map_append, ← List.append_assoc]
          simp only [go_sem, Int.reduceTMod, Int.reduceTDiv, Int.reduceDiv, Int.reduceMod, Int.reduceAdd, Int.reduceSub, Int.reduceMul, Int.reduceNeg, Int.reducePow, Int.reduceEq, ↓reduceIte, Nat.reduceEqDiff, Nat.reduceAdd, Nat.reduceMul, Nat.reduceLeDiff, Nat.reduceSub, Nat.reduceLT, Int.reduceToNat, Int.reduceLT, Int.reduceLE, reduceCtorEq]
          exact hO3
      · skip
        subst hcc
        try simp only [r18_0, r18_1, r18_2, r18_3, r18_4, r18_5, r18_6, r18_7, r18_8, r18_9, r18_10, r18_12, r18_13, r18_14, r18_15, r18_16, r18_11, r18_17, r18_18, r18_20, r18_21, r18_19, r18_22, r18_23, r18_24, r18_25, r18_26, r18_27, r18_29, r18_30, r18_28, r18_31, c18, F18, l18_0, l18_1, l18_2, q15, q0, q1, q2, q3, q11, c1, c2, c3, c5, hrd, Int.toNat_natCast, go_sem, Int.reduceTMod, Int.reduceTDiv, Int.reduceDiv, Int.reduceMod, Int.reduceAdd, Int.reduceSub, Int.reduceMul, Int.reduceNeg, Int.reducePow, Int.reduceEq, ↓reduceIte, Nat.reduceEqDiff, Nat.reduceAdd, Nat.reduceMul, Nat.reduceLeDiff, Nat.reduceSub, Nat.reduceLT, Int.reduceToNat, Int.reduceLT, Int.reduceLE, reduceCtorEq]
        repeat' ((first | refine FK_split (fun h_ => ?_) (fun h_ => ?_) | refine GK_split (fun h_ => ?_) (fun h_ => ?_) | refine ite_both (fun h_ => ?_) (fun h_ => ?_)) <;> (try simp only [decide_eq_true_eq, decide_eq_false_iff_not, Bool.not_true, Bool.not_false, Bool.not_eq_true', Bool.not_eq_false', Bool.not_eq_eq_eq_not, Decidable.not_not] at h_) <;> (try simp only [r18_0, r18_1, r18_2, r18_3, r18_4, r18_5, r18_6, r18_7, r18_8, r18_9, r18_10, r18_12, r18_13, r18_14, r18_15, r18_16, r18_11, r18_17, r18_18, r18_20, r18_21, r18_19, r18_22, r18_23, r18_24, r18_25, r18_26, r18_27, r18_29, r18_30, r18_28, r18_31, c18, F18, l18_0, l18_1, l18_2, q15, q0, q1, q2, q3, q11, c1, c2, c3, c5, hrd, Int.toNat_natCast, h_, go_sem, Int.reduceTMod, Int.reduceTDiv, Int.reduceDiv, Int.reduceMod, Int.reduceAdd, Int.reduceSub, Int.reduceMul, Int.reduceNeg, Int.reducePow, Int.reduceEq, ↓reduceIte, Nat.reduceEqDiff, Nat.reduceAdd, Nat.reduceMul, Nat.reduceLeDiff, Nat.reduceSub, Nat.reduceLT, Int.reduceToNat, Int.reduceLT, Int.reduceLE, reduceCtorEq]))
        refine RK_callk ?_
        refine (w_rDiscP ip h1 h2 _ _).mono ?_
        rintro r1 m1 n1 ⟨hn1, x, rfl, hx, hxi⟩
        obtain ⟨hO2, hx2, hx3⟩ := row_after hO1 (by omega) hx hxi
        try simp only [r18_0, r18_1, r18_2, r18_3, r18_4, r18_5, r18_6, r18_7, r18_8, r18_9, r18_10, r18_12, r18_13, r18_14, r18_15, r18_16, r18_11, r18_17, r18_18, r18_20, r18_21, r18_19, r18_22, r18_23, r18_24, r18_25, r18_26, r18_27, r18_29, r18_30, r18_28, r18_31, c18, F18, go_sem, Int.reduceTMod, Int.reduceTDiv, Int.reduceDiv, Int.reduceMod, Int.reduceAdd, Int.reduceSub, Int.reduceMul, Int.reduceNeg, Int.reducePow, Int.reduceEq, ↓reduceIte, Nat.reduceEqDiff, Nat.reduceAdd, Nat.reduceMul, Nat.reduceLeDiff, Nat.reduceSub, Nat.reduceLT, Int.reduceToNat, Int.reduceLT, Int.reduceLE, reduceCtorEq]
        repeat' ((first | refine FK_split (fun h_ => ?_) (fun h_ => ?_) | refine GK_split (fun h_ => ?_) (fun h_ => ?_) | refine ite_both (fun h_ => ?_) (fun h_ => ?_)) <;> (try simp only [decide_eq_true_eq, decide_eq_false_iff_not, Bool.not_true, Bool.not_false, Bool.not_eq_true', Bool.not_eq_false', Bool.not_eq_eq_eq_not, Decidable.not_not] at h_) <;> (try simp only [r18_0, r18_1, r18_2, r18_3, r18_4, r18_5, r18_6, r18_7, r18_8, r18_9, r18_10, r18_12, r18_13, r18_14, r18_15, r18_16, r18_11, r18_17, r18_18, r18_20, r18_21, r18_19, r18_22, r18_23, r18_24, r18_25, r18_26, r18_27, r18_29, r18_30, r18_28, r18_31, c18, F18, h_, go_sem, Int.reduceTMod, Int.reduceTDiv, Int.reduceDiv, Int.reduceMod, Int.reduceAdd, Int.reduceSub, Int.reduceMul, Int.reduceNeg, Int.reducePow, Int.reduceEq, ↓reduceIte, Nat.reduceEqDiff, Nat.reduceAdd, Nat.reduceMul, Nat.reduceLeDiff, Nat.reduceSub, Nat.reduceLT, Int.reduceToNat, Int.reduceLT, Int.reduceLE, reduceCtorEq]))
        refine row_push hO2 (by omega) hx2 hx3 (by rw [List.length_append, List.length_map]; omega) ?_
        intro c' m' hO3 hf
        try simp only [r18_0, r18_1, r18_2, r18_3, r18_4, r18_5, r18_6, r18_7, r18_8, r18_9, r18_10, r18_12, r18_13, r18_14, r18_15, r18_16, r18_11, r18_17, r18_18, r18_20, r18_21, r18_19, r18_22, r18_23, r18_24, r18_25, r18_26, r18_27, r18_29, r18_30, r18_28, r18_31, c18, F18, q15, q0, q1, q2, q3, q11, c7, go_sem, Int.reduceTMod, Int.reduceTDiv, Int.reduceDiv, Int.reduceMod, Int.reduceAdd, Int.reduceSub, Int.reduceMul, Int.reduceNeg, Int.reducePow, Int.reduceEq, ↓reduceIte, Nat.reduceEqDiff, Nat.reduceAdd, Nat.reduceMul, Nat.reduceLeDiff, Nat.reduceSub, Nat.reduceLT, Int.reduceToNat, Int.reduceLT, Int.reduceLE, reduceCtorEq]
        repeat' ((first | refine FK_split (fun h_ => ?_) (fun h_ => ?_) | refine GK_split (fun h_ => ?_) (fun h_ => ?_) | refine ite_both (fun h_ => ?_) (fun h_ => ?_)) <;> (try simp only [decide_eq_true_eq, decide_eq_false_iff_not, Bool.not_true, Bool.not_false, Bool.not_eq_true', Bool.not_eq_false', Bool.not_eq_eq_eq_not, Decidable.not_not] at h_) <;> (try simp only [r18_0, r18_1, r18_2, r18_3, r18_4, r18_5, r18_6, r18_7, r18_8, r18_9, r18_10, r18_12, r18_13, r18_14, r18_15, r18_16, r18_11, r18_17, r18_18, r18_20, r18_21, r18_19, r18_22, r18_23, r18_24, r18_25, r18_26, r18_27, r18_29, r18_30, r18_28, r18_31, c18, F18, q15, q0, q1, q2, q3, q11, c7, h_, go_sem, Int.reduceTMod, Int.reduceTDiv, Int.reduceDiv, Int.reduceMod, Int.reduceAdd, Int.reduceSub, Int.reduceMul, Int.reduceNeg, Int.reducePow, Int.reduceEq, ↓reduceIte, Nat.reduceEqDiff, Nat.reduceAdd, Nat.reduceMul, Nat.reduceLeDiff, Nat.reduceSub, Nat.reduceLT, Int.reduceToNat, Int.reduceLT, Int.reduceLE, reduceCtorEq]))
        refine next _ ⟨?_, ?_, ?_, ?_, ?_, ?_, ?_, ?_, ?_⟩
        · simp only [go_sem, Int.reduceTMod, Int.reduceTDiv, Int.reduceDiv, Int.reduceMod, Int.reduceAdd, Int.reduceSub, Int.reduceMul, Int.reduceNeg, Int.reducePow, Int.reduceEq, ↓reduceIte, Nat.reduceEqDiff, Nat.reduceAdd, Nat.reduceMul, Nat.reduceLeDiff, Nat.reduceSub, Nat.reduceLT, Int.reduceToNat, Int.reduceLT, Int.reduceLE, reduceCtorEq]
        · simp only [q0, hra, go_sem, Int.reduceTMod, Int.reduceTDiv, Int.reduceDiv, Int.reduceMod, Int.reduceAdd, Int.reduceSub, Int.reduceMul, Int.reduceNeg, Int.reducePow, Int.reduceEq, ↓reduceIte, Nat.reduceEqDiff, Nat.reduceAdd, Nat.reduceMul, Nat.reduceLeDiff, Nat.reduceSub, Nat.reduceLT, Int.reduceToNat, Int.reduceLT, Int.reduceLE, reduceCtorEq]
        · simp only [q1, go_sem, Int.reduceTMod, Int.reduceTDiv, Int.reduceDiv, Int.reduceMod, Int.reduceAdd, Int.reduceSub, Int.reduceMul, Int.reduceNeg, Int.reducePow, Int.reduceEq, ↓reduceIte, Nat.reduceEqDiff, Nat.reduceAdd, Nat.reduceMul, Nat.reduceLeDiff, Nat.reduceSub, Nat.reduceLT, Int.reduceToNat, Int.reduceLT, Int.reduceLE, reduceCtorEq]
        · simp only [q2, go_sem, Int.reduceTMod, Int.reduceTDiv, Int.reduceDiv, Int.reduceMod, Int.reduceAdd, Int.reduceSub, Int.reduceMul, Int.reduceNeg, Int.reducePow, Int.reduceEq, ↓reduceIte, Nat.reduceEqDiff, Nat.reduceAdd, Nat.reduceMul, Nat.reduceLeDiff, Nat.reduceSub, Nat.reduceLT, Int.reduceToNat, Int.reduceLT, Int.reduceLE, reduceCtorEq]
        · simp only [q3, go_sem, Int.reduceTMod, Int.reduceTDiv, Int.reduceDiv, Int.reduceMod, Int.reduceAdd, Int.reduceSub, Int.reduceMul, Int.reduceNeg, Int.reducePow, Int.reduceEq, ↓reduceIte, Nat.reduceEqDiff, Nat.reduceAdd, Nat.reduceMul, Nat.reduceLeDiff, Nat.reduceSub, Nat.reduceLT, Int.reduceToNat, Int.reduceLT, Int.reduceLE, reduceCtorEq]
        · simp only [q11, go_sem, Int.reduceTMod, Int.reduceTDiv, Int.reduceDiv, Int.reduceMod, Int.reduceAdd, Int.reduceSub, Int.reduceMul, Int.reduceNeg, Int.reducePow, Int.reduceEq, ↓reduceIte, Nat.reduceEqDiff, Nat.reduceAdd, Nat.reduceMul, Nat.reduceLeDiff, Nat.reduceSub, Nat.reduceLT, Int.reduceToNat, Int.reduceLT, Int.reduceLE, reduceCtorEq]
        · simp only; omega
        · intro j hj
          simp only
          rw [hf j hj, unfrz_at, if_pos (by omega)]
          exact qm j hj
        · rw [hdt, List.map_append, ← List.append_assoc]
          simp only [go_sem, Int.reduceTMod, Int.reduceTDiv, Int.reduceDiv, Int.reduceMod, Int.reduceAdd, Int.reduceSub, Int.reduceMul, Int.reduceNeg, Int.reducePow, Int.reduceEq, ↓reduceIte, Nat.reduceEqDiff, Nat.reduceAdd, Nat.reduceMul, Nat.reduceLeDiff, Nat.reduceSub, Nat.reduceLT, Int.reduceToNat, Int.reduceLT, Int.reduceLE, reduceCtorEq]
          exact hO3
    · rw [if_neg g] at hdt
      have gc : c = false := by cases c; rfl; exact absurd (Or.inl rfl) g
      subst gc
      by_cases g0 : 0 < i
      · have g1 : ((i : Int) < (l.length : Int) - 1) = False := eq_false (fun h => g (Or.inr ⟨g0, by omega⟩))
        have g0' : ((0 : Int) < (i : Int)) = True := eq_true (by omega)
        try simp only [r18_0, r18_1, r18_2, r18_3, r18_4, r18_5, r18_6, r18_7, r18_8, r18_9, r18_10, r18_12, r18_13, r18_14, r18_15, r18_16, r18_11, r18_17, r18_18, r18_20, r18_21, r18_19, r18_22, r18_23, r18_24, r18_25, r18_26, r18_27, r18_29, r18_30, r18_28, r18_31, c18, F18, l18_0, l18_1, l18_2, q15, q0, q1, q2, q3, q11, c1, c2, c3, c5, c7, g1, g0', Int.toNat_natCast, go_sem, Int.reduceTMod, Int.reduceTDiv, Int.reduceDiv, Int.reduceMod, Int.reduceAdd, Int.reduceSub, Int.reduceMul, Int.reduceNeg, Int.reducePow, Int.reduceEq, ↓reduceIte, Nat.reduceEqDiff, Nat.reduceAdd, Nat.reduceMul, Nat.reduceLeDiff, Nat.reduceSub, Nat.reduceLT, Int.reduceToNat, Int.reduceLT, Int.reduceLE, reduceCtorEq]
        repeat' ((first | refine FK_split (fun h_ => ?_) (fun h_ => ?_) | refine GK_split (fun h_ => ?_) (fun h_ => ?_) | refine ite_both (fun h_ => ?_) (fun h_ => ?_)) <;> (try simp only [decide_eq_true_eq, decide_eq_false_iff_not, Bool.not_true, Bool.not_false, Bool.not_eq_true', Bool.not_eq_false', Bool.not_eq_eq_eq_not, Decidable.not_not] at h_) <;> (try simp only [r18_0, r18_1, r18_2, r18_3, r18_4, r18_5, r18_6, r18_7, r18_8, r18_9, r18_10, r18_12, r18_13, r18_14, r18_15, r18_16, r18_11, r18_17, r18_18, r18_20, r18_21, r18_19, r18_22, r18_23, r18_24, r18_25, r18_26, r18_27, r18_29, r18_30, r18_28, r18_31, c18, F18, l18_0, l18_1, l18_2, q15, q0, q1, q2, q3, q11, c1, c2, c3, c5, c7, g1, g0', Int.toNat_natCast, h_, go_sem, Int.reduceTMod, Int.reduceTDiv, Int.reduceDiv, Int.reduceMod, Int.reduceAdd, Int.reduceSub, Int.reduceMul, Int.reduceNeg, Int.reducePow, Int.reduceEq, ↓reduceIte, Nat.reduceEqDiff, Nat.reduceAdd, Nat.reduceMul, Nat.reduceLeDiff, Nat.reduceSub, Nat.reduceLT, Int.reduceToNat, Int.reduceLT, Int.reduceLE, reduceCtorEq]))
        refine next _ ⟨?_, ?_, ?_, ?_, ?_, ?_, qn, qm, ?_⟩
        · simp only [go_sem, Int.reduceTMod, Int.reduceTDiv, Int.reduceDiv, Int.reduceMod, Int.reduceAdd, Int.reduceSub, Int.reduceMul, Int.reduceNeg, Int.reducePow, Int.reduceEq, ↓reduceIte, Nat.reduceEqDiff, Nat.reduceAdd, Nat.reduceMul, Nat.reduceLeDiff, Nat.reduceSub, Nat.reduceLT, Int.reduceToNat, Int.reduceLT, Int.reduceLE, reduceCtorEq]
        · simp only [q0, hra, go_sem, Int.reduceTMod, Int.reduceTDiv, Int.reduceDiv, Int.reduceMod, Int.reduceAdd, Int.reduceSub, Int.reduceMul, Int.reduceNeg, Int.reducePow, Int.reduceEq, ↓reduceIte, Nat.reduceEqDiff, Nat.reduceAdd, Nat.reduceMul, Nat.reduceLeDiff, Nat.reduceSub, Nat.reduceLT, Int.reduceToNat, Int.reduceLT, Int.reduceLE, reduceCtorEq]
        · simp only [q1, go_sem, Int.reduceTMod, Int.reduceTDiv, Int.reduceDiv, Int.reduceMod, Int.reduceAdd, Int.reduceSub, Int.reduceMul, Int.reduceNeg, Int.reducePow, Int.reduceEq, ↓reduceIte, Nat.reduceEqDiff, Nat.reduceAdd, Nat.reduceMul, Nat.reduceLeDiff, Nat.reduceSub, Nat.reduceLT, Int.reduceToNat, Int.reduceLT, Int.reduceLE, reduceCtorEq]
        · simp only [q2, go_sem, Int.reduceTMod, Int.reduceTDiv, Int.reduceDiv, Int.reduceMod, Int.reduceAdd, Int.reduceSub, Int.reduceMul, Int.reduceNeg, Int.reducePow, Int.reduceEq, ↓reduceIte, Nat.reduceEqDiff, Nat.reduceAdd, Nat.reduceMul, Nat.reduceLeDiff, Nat.reduceSub, Nat.reduceLT, Int.reduceToNat, Int.reduceLT, Int.reduceLE, reduceCtorEq]
        · simp only [q3, go_sem, Int.reduceTMod, Int.reduceTDiv, Int.reduceDiv, Int.reduceMod, Int.reduceAdd, Int.reduceSub, Int.reduceMul, Int.reduceNeg, Int.reducePow, Int.reduceEq, ↓reduceIte, Nat.reduceEqDiff, Nat.reduceAdd, Nat.reduceMul, Nat.reduceLeDiff, Nat.reduceSub, Nat.reduceLT, Int.reduceToNat, Int.reduceLT, Int.reduceLE, reduceCtorEq]
        · simp only [q11, go_sem, Int.reduceTMod, Int.reduceTDiv, Int.reduceDiv, Int.reduceMod, Int.reduceAdd, Int.reduceSub, Int.reduceMul, Int.reduceNeg, Int.reducePow, Int.reduceEq, ↓reduceIte, Nat.reduceEqDiff, Nat.reduceAdd, Nat.reduceMul, Nat.reduceLeDiff, Nat.reduceSub, Nat.reduceLT, Int.reduceToNat, Int.reduceLT, Int.reduceLE, reduceCtorEq]
        · rw [hdt, List.append_nil]
          simp only [go_sem, Int.reduceTMod, Int.reduceTDiv, Int.reduceDiv, Int.reduceMod, Int.reduceAdd, Int.reduceSub, Int.reduceMul, Int.reduceNeg, Int.reducePow, Int.reduceEq, ↓reduceIte, Nat.reduceEqDiff, Nat.reduceAdd, Nat.reduceMul, Nat.reduceLeDiff, Nat.reduceSub, Nat.reduceLT, Int.reduceToNat, Int.reduceLT, Int.reduceLE, reduceCtorEq]
          exact hO1
      · have g0' : ((0 : Int) < (i : Int)) = False := eq_false (by omega)
        try simp only [r18_0, r18_1, r18_2, r18_3, r18_4, r18_5, r18_6, r18_7, r18_8, r18_9, r18_10, r18_12, r18_13, r18_14, r18_15, r18_16, r18_11, r18_17, r18_18, r18_20, r18_21, r18_19, r18_22, r18_23, r18_24, r18_25, r18_26, r18_27, r18_29, r18_30, r18_28, r18_31, c18, F18, l18_0, l18_1, l18_2, q15, q0, q1, q2, q3, q11, c1, c2, c3, c5, c7, g0', Int.toNat_natCast, go_sem, Int.reduceTMod, Int.reduceTDiv, Int.reduceDiv, Int.reduceMod, Int.reduceAdd, Int.reduceSub, Int.reduceMul, Int.reduceNeg, Int.reducePow, Int.reduceEq, ↓reduceIte, Nat.reduceEqDiff, Nat.reduceAdd, Nat.reduceMul, Nat.reduceLeDiff, Nat.reduceSub, Nat.reduceLT, Int.reduceToNat, Int.reduceLT, Int.reduceLE, reduceCtorEq]
        repeat' ((first | refine FK_split (fun h_ => ?_) (fun h_ => ?_) | refine GK_split (fun h_ => ?_) (fun h_ => ?_) | refine ite_both (fun h_ => ?_) (fun h_ => ?_)) <;> (try simp only [decide_eq_true_eq, decide_eq_false_iff_not, Bool.not_true, Bool.not_false, Bool.not_eq_true', Bool.not_eq_false', Bool.not_eq_eq_eq_not, Decidable.not_not] at h_) <;> (try simp only [r18_0, r18_1, r18_2, r18_3, r18_4, r18_5, r18_6, r18_7, r18_8, r18_9, r18_10, r18_12, r18_13, r18_14, r18_15, r18_16, r18_11, r18_17, r18_18, r18_20, r18_21, r18_19, r18_22, r18_23, r18_24, r18_25, r18_26, r18_27, r18_29, r18_30, r18_28, r18_31, c18, F18, l18_0, l18_1, l18_2, q15, q0, q1, q2, q3, q11, c1, c2, c3, c5, c7, g0', Int.toNat_natCast, h_, go_sem, Int.reduceTMod, Int.reduceTDiv, Int.reduceDiv, Int.reduceMod, Int.reduceAdd, Int.reduceSub, Int.reduceMul, Int.reduceNeg, Int.reducePow, Int.reduceEq, ↓reduceIte, Nat.reduceEqDiff, Nat.reduceAdd, Nat.reduceMul, Nat.reduceLeDiff, Nat.reduceSub, Nat.reduceLT, Int.reduceToNat, Int.reduceLT, Int.reduceLE, reduceCtorEq]))
        refine next _ ⟨?_, ?_, ?_, ?_, ?_, ?_, qn, qm, ?_⟩
        · simp only [go_sem, Int.reduceTMod, Int.reduceTDiv, Int.reduceDiv, Int.reduceMod, Int.reduceAdd, Int.reduceSub, Int.reduceMul, Int.reduceNeg, Int.reducePow, Int.reduceEq, ↓reduceIte, Nat.reduceEqDiff, Nat.reduceAdd, Nat.reduceMul, Nat.reduceLeDiff, Nat.reduceSub, Nat.reduceLT, Int.reduceToNat, Int.reduceLT, Int.reduceLE, reduceCtorEq]
        · simp only [q0, hra, go_sem, Int.reduceTMod, Int.reduceTDiv, Int.reduceDiv, Int.reduceMod, Int.reduceAdd, Int.reduceSub, Int.reduceMul, Int.reduceNeg, Int.reducePow, Int.reduceEq, ↓reduceIte, Nat.reduceEqDiff, Nat.reduceAdd, Nat.reduceMul, Nat.reduceLeDiff, Nat.reduceSub, Nat.reduceLT, Int.reduceToNat, Int.reduceLT, Int.reduceLE, reduceCtorEq]
        · simp only [q1, go_sem, Int.reduceTMod, Int.reduceTDiv, Int.reduceDiv, Int.reduceMod, Int.reduceAdd, Int.reduceSub, Int.reduceMul, Int.reduceNeg, Int.reducePow, Int.reduceEq, ↓reduceIte, Nat.reduceEqDiff, Nat.reduceAdd, Nat.reduceMul, Nat.reduceLeDiff, Nat.reduceSub, Nat.reduceLT, Int.reduceToNat, Int.reduceLT, Int.reduceLE, reduceCtorEq]
        · simp only [q2, go_sem, Int.reduceTMod, Int.reduceTDiv, Int.reduceDiv, Int.reduceMod, Int.reduceAdd, Int.reduceSub, Int.reduceMul, Int.reduceNeg, Int.reducePow, Int.reduceEq, ↓reduceIte, Nat.reduceEqDiff, Nat.reduceAdd, Nat.reduceMul, Nat.reduceLeDiff, Nat.reduceSub, Nat.reduceLT, Int.reduceToNat, Int.reduceLT, Int.reduceLE, reduceCtorEq]
        · simp only [q3, go_sem, Int.reduceTMod, Int.reduceTDiv, Int.reduceDiv, Int.reduceMod, Int.reduceAdd, Int.reduceSub, Int.reduceMul, Int.reduceNeg, Int.reducePow, Int.reduceEq, ↓reduceIte, Nat.reduceEqDiff, Nat.reduceAdd, Nat.reduceMul, Nat.reduceLeDiff, Nat.reduceSub, Nat.reduceLT, Int.reduceToNat, Int.reduceLT, Int.reduceLE, reduceCtorEq]
        · simp only [q11, go_sem, Int.reduceTMod, Int.reduceTDiv, Int.reduceDiv, Int.reduceMod, Int.reduceAdd, Int.reduceSub, Int.reduceMul, Int.reduceNeg, Int.reducePow, Int.reduceEq, ↓reduceIte, Nat.reduceEqDiff, Nat.reduceAdd, Nat.reduceMul, Nat.reduceLeDiff, Nat.reduceSub, Nat.reduceLT, Int.reduceToNat, Int.reduceLT, Int.reduceLE, reduceCtorEq]
        · rw [hdt, List.append_nil]
          simp only [go_sem, Int.reduceTMod, Int.reduceTDiv, Int.reduceDiv, Int.reduceMod, Int.reduceAdd, Int.reduceSub, Int.reduceMul, Int.reduceNeg, Int.reducePow, Int.reduceEq, ↓reduceIte, Nat.reduceEqDiff, Nat.reduceAdd, Nat.reduceMul, Nat.reduceLeDiff, Nat.reduceSub, Nat.reduceLT, Int.reduceToNat, Int.reduceLT, Int.reduceLE, reduceCtorEq]
          exact hO1
  · obtain ⟨e, M, N⟩ := s
    obtain ⟨q15, q0, q1, q2, q3, q11, qn, qm, hO1⟩ := hs
    simp only at q15 q0 q1 q2 q3 q11 qn qm hO1
    have c1 : ((1 : Int) < (l.length : Int)) = True := eq_true (by omega)
    have c2 : ((l.length : Int) < (l.length : Int)) = False := eq_false (by omega)
    try simp only [r18_0, r18_1, r18_2, r18_3, r18_4, r18_5, r18_6, r18_7, r18_8, r18_9, r18_10, r18_12, r18_13, r18_14, r18_15, r18_16, r18_11, r18_17, r18_18, r18_20, r18_21, r18_19, r18_22, r18_23, r18_24, r18_25, r18_26, r18_27, r18_29, r18_30, r18_28, r18_31, c18, F18, l18_0, l18_1, l18_2, q15, q11, c1, c2, go_sem, Int.reduceTMod, Int.reduceTDiv, Int.reduceDiv, Int.reduceMod, Int.reduceAdd, Int.reduceSub, Int.reduceMul, Int.reduceNeg, Int.reducePow, Int.reduceEq, ↓reduceIte, Nat.reduceEqDiff, Nat.reduceAdd, Nat.reduceMul, Nat.reduceLeDiff, Nat.reduceSub, Nat.reduceLT, Int.reduceToNat, Int.reduceLT, Int.reduceLE, reduceCtorEq]
    repeat' ((first | refine FK_split (fun h_ => ?_) (fun h_ => ?_) | refine GK_split (fun h_ => ?_) (fun h_ => ?_) | refine ite_both (fun h_ => ?_) (fun h_ => ?_)) <;> (try simp only [decide_eq_true_eq, decide_eq_false_iff_not, Bool.not_true, Bool.not_false, Bool.not_eq_true', Bool.not_eq_false', Bool.not_eq_eq_eq_not, Decidable.not_not] at h_) <;> (try simp only [r18_0, r18_1, r18_2, r18_3, r18_4, r18_5, r18_6, r18_7, r18_8, r18_9, r18_10, r18_12, r18_13, r18_14, r18_15, r18_16, r18_11, r18_17, r18_18, r18_20, r18_21, r18_19, r18_22, r18_23, r18_24, r18_25, r18_26, r18_27, r18_29, r18_30, r18_28, r18_31, c18, F18, l18_0, l18_1, l18_2, q15, q11, c1, c2, h_, go_sem, Int.reduceTMod, Int.reduceTDiv, Int.reduceDiv, Int.reduceMod, Int.reduceAdd, Int.reduceSub, Int.reduceMul, Int.reduceNeg, Int.reducePow, Int.reduceEq, ↓reduceIte, Nat.reduceEqDiff, Nat.reduceAdd, Nat.reduceMul, Nat.reduceLeDiff, Nat.reduceSub, Nat.reduceLT, Int.reduceToNat, Int.reduceLT, Int.reduceLE, reduceCtorEq]))
    refine hK _ qn qm ?_ ?_ ?_ ?_ ?_ ?_
    · simp only [q0, go_sem, Int.reduceTMod, Int.reduceTDiv, Int.reduceDiv, Int.reduceMod, Int.reduceAdd, Int.reduceSub, Int.reduceMul, Int.reduceNeg, Int.reducePow, Int.reduceEq, ↓reduceIte, Nat.reduceEqDiff, Nat.reduceAdd, Nat.reduceMul, Nat.reduceLeDiff, Nat.reduceSub, Nat.reduceLT, Int.reduceToNat, Int.reduceLT, Int.reduceLE, reduceCtorEq]
    · simp only [q1, go_sem, Int.reduceTMod, Int.reduceTDiv, Int.reduceDiv, Int.reduceMod, Int.reduceAdd, Int.reduceSub, Int.reduceMul, Int.reduceNeg, Int.reducePow, Int.reduceEq, ↓reduceIte, Nat.reduceEqDiff, Nat.reduceAdd, Nat.reduceMul, Nat.reduceLeDiff, Nat.reduceSub, Nat.reduceLT, Int.reduceToNat, Int.reduceLT, Int.reduceLE, reduceCtorEq]
    · simp only [q2, go_sem, Int.reduceTMod, Int.reduceTDiv, Int.reduceDiv, Int.reduceMod, Int.reduceAdd, Int.reduceSub, Int.reduceMul, Int.reduceNeg, Int.reducePow, Int.reduceEq, ↓reduceIte, Nat.reduceEqDiff, Nat.reduceAdd, Nat.reduceMul, Nat.reduceLeDiff, Nat.reduceSub, Nat.reduceLT, Int.reduceToNat, Int.reduceLT, Int.reduceLE, reduceCtorEq]
    · simp only [q3, go_sem, Int.reduceTMod, Int.reduceTDiv, Int.reduceDiv, Int.reduceMod, Int.reduceAdd, Int.reduceSub, Int.reduceMul, Int.reduceNeg, Int.reducePow, Int.reduceEq, ↓reduceIte, Nat.reduceEqDiff, Nat.reduceAdd, Nat.reduceMul, Nat.reduceLeDiff, Nat.reduceSub, Nat.reduceLT, Int.reduceToNat, Int.reduceLT, Int.reduceLE, reduceCtorEq]
    · simp only [q11, go_sem, Int.reduceTMod, Int.reduceTDiv, Int.reduceDiv, Int.reduceMod, Int.reduceAdd, Int.reduceSub, Int.reduceMul, Int.reduceNeg, Int.reducePow, Int.reduceEq, ↓reduceIte, Nat.reduceEqDiff, Nat.reduceAdd, Nat.reduceMul, Nat.reduceLeDiff, Nat.reduceSub, Nat.reduceLT, Int.reduceToNat, Int.reduceLT, Int.reduceLE, reduceCtorEq]
    · simp only [go_sem, Int.reduceTMod, Int.reduceTDiv, Int.reduceDiv, Int.reduceMod, Int.reduceAdd, Int.reduceSub, Int.reduceMul, Int.reduceNeg, Int.reducePow, Int.reduceEq, ↓reduceIte, Nat.reduceEqDiff, Nat.reduceAdd, Nat.reduceMul, Nat.reduceLeDiff, Nat.reduceSub, Nat.reduceLT, Int.reduceToNat, Int.reduceLT, Int.reduceLE, reduceCtorEq]
      exact hO1
  · refine ⟨e15, e0, e1, e2, e3, e11, Nat.le_refl _, fun _ _ => rfl, ?_⟩
    simp only [discsTo, List.map_nil, List.append_nil, e10]
    exact hO

/- The reference's bars. Conditions: those that each theorem names. -/
open Go Go.Proofs
set_option linter.unusedSimpArgs false
set_option linter.unusedVariables false

/-- The bars of points, closed or not. -/
noncomputable def barsAll (h : Int) (l : List Pt) (c : Bool) : List (Bool × List Pt) := barsTo h l (l.length - 1) ++ (if c = true then barAt h l (l.length - 1) 0 else [])
noncomputable def rbarsTo (h : Int) (l : List Pt) (i : Nat) : List (Bool × List Pt) := if i + 1 ≤ l.length then barsTo h l i else barsTo h l (l.length - 1) ++ barAt h l (l.length - 1) 0
theorem barsTo_bad {h : Int} {l : List Pt} {i : Nat} (hb : (barsTo h l i).all (·.1) = false) : ∀ j, i ≤ j → (barsTo h l j).all (·.1) = false := by
  intro j hj
  induction j with
  | zero => obtain rfl : i = 0 := by omega
            exact hb
  | succ j ih =>
    by_cases e : i = j + 1
    · rw [← e]; exact hb
    · rw [barsTo, List.all_append, ih (by omega), Bool.false_and]
set_option maxHeartbeats 1000000 in
theorem rbars_loop {K : Kt} {p : Nat} {h : Int} {m : Mem} {n : Nat} {r : Reg} {l : List Pt} {c : Bool} {cp : Int} (hpn : p < n) (hr : RPt m n r l) (hb : ∀ id, sid r = some id → id ≤ p)
    (h1 : 1 ≤ h) (h2 : h ≤ 32768) (hin : l.all inP = true) (hadj : ∀ i p q, l[i]? = some p → l[i + 1]? = some q → p ≠ q) (hends : c = true → l[l.length - 1]? ≠ l[0]?) (hl2 : 2 ≤ l.length) (hl : l.length < 1000000) {e : Nat → Reg} (e0 : e 0 = r) (e1 : e 1 = RB c) (e2 : e 2 = RI h) (e3 : e 3 = RI cp) (e10 : e 10 = rnil) (e11 : e 11 = RI l.length) (e13 : e 13 = RI 0)
    (hret : (barsAll h l c).all (·.1) = false → ∀ s, s.e 8 = rnil → s.e 9 = RB false → n ≤ s.n → KR TA K s)
    (hK : ∀ s, n ≤ s.n → (∀ id, id ≤ p → s.m id = m id) → s.e 0 = r → s.e 1 = RB c → s.e 2 = RI h → s.e 3 = RI cp → s.e 11 = RI l.length → OPs p p p s.m s.n (s.e 10) ((barsAll h l c).map (·.2)) → (∀ x ∈ barsAll h l c, x.1 = x.2.all inP) → (∀ k, k + 1 < l.length → ∀ p q, l[k]? = some p → l[k + 1]? = some q → longQ p q = false) → KX TA K 0 s) :
    XK TA (.loop l18_0) ⟨e, m, n⟩ K := by
  refine XK_iter (inv := fun i s => s.e 13 = RI i ∧ s.e 0 = r ∧ s.e 1 = RB c ∧ s.e 2 = RI h ∧ s.e 3 = RI cp ∧ s.e 11 = RI l.length ∧ n ≤ s.n ∧ (∀ id, id ≤ p → s.m id = m id) ∧ OPs p p p s.m s.n (s.e 10) ((rbarsTo h l i).map (·.2)) ∧ (∀ x ∈ rbarsTo h l i, x.1 = x.2.all inP) ∧ ∀ k, k < i → k + 1 < l.length → ∀ p q, l[k]? = some p → l[k + 1]? = some q → longQ p q = false) (if c = true then l.length else l.length - 1)
    (fun L _ => ⟨fun i hi s hs next => ?_, fun s hs => ?_⟩) 0 (by omega) _ ?_
  · obtain ⟨e, M, N⟩ := s
    obtain ⟨q13, q0, q1, q2, q3, q11, qn, qm, hO1, hR1, hL1⟩ := hs
    simp only at q13 q0 q1 q2 q3 q11 qn qm hO1 hR1 hL1
    have hi' : i < l.length := by split at hi <;> omega
    have hr1 : RPt M N r l := hr.keep' qn (fun id hid => qm id (hb id hid))
    obtain ⟨j, hj⟩ : ∃ j, j = if i + 1 = l.length then 0 else i + 1 := ⟨_, rfl⟩
    have hjl : j < l.length := by rw [hj]; split <;> omega
    have hp : l[i]? = some l[i] := List.getElem?_eq_getElem hi'
    have hq : l[j]? = some l[j] := List.getElem?_eq_getElem hjl
    obtain ⟨id, off, cap, hra, hid, hrd⟩ := hr1.at cs2 hp
    obtain ⟨id', off', cap', hra', hid', hrd'⟩ := hr1.at cs2 hq
    rw [hra] at hra'
    simp only [Reg.one.injEq, Cell.sl.injEq, true_and] at hra'
    obtain ⟨rfl, rfl, rfl, _⟩ := hra'
    have ip := all_at hin hp
    have iq := all_at hin hq
    have c1 : ((1 : Int) < (l.length : Int)) = True := eq_true (by omega)
    have c2 : ((i : Int) < (l.length : Int)) = True := eq_true (by omega)
    have c2' : ((j : Int) < (l.length : Int)) = True := eq_true (by omega)
    have c3 : (0 ≤ (i : Int)) = True := eq_true (by omega)
    have c3' : (0 ≤ (j : Int)) = True := eq_true (by omega)
    have c5 : IntKind.i64.wrap ((l.length : Int) - 1) = (l.length : Int) - 1 := wr_eq (by omega) (by omega)
    have c7 : IntKind.i64.wrap ((i : Int) + 1) = ((i + 1 : Nat) : Int) := wr_nat (by omega)
    have c8 : ((l.length : Int) = 0) = False := eq_false (by omega)
    have c9 : ((i + 1 : Nat) : Int).tmod (l.length : Int) = (j : Int) := by
      rw [Int.tmod_eq_emod_of_nonneg (by omega), hj]
      split
      · rename_i e; rw [e]; simp
      · rw [Int.emod_eq_of_lt (by omega) (by omega)]
    have hrt : rbarsTo h l i = barsTo h l i := if_pos (by omega)
    have hba : rbarsTo h l (i + 1) = barsTo h l i ++ barAt h l i j := by
      unfold rbarsTo
      by_cases e : i + 1 = l.length
      · rw [if_neg (by omega), hj, if_pos e, show l.length - 1 = i by omega]
      · rw [if_pos (by omega), barsTo, hj, if_neg e]
    have hsub : (barsTo h l i ++ barAt h l i j).all (·.1) = false → (barsAll h l c).all (·.1) = false := fun hf => by
      unfold barsAll
      by_cases e : i + 1 = l.length
      · have hc : c = true := by cases c; (simp only [Bool.false_eq_true, if_false] at hi; omega); rfl
        rw [if_pos hc, show l.length - 1 = i by omega]
        rw [hj, if_pos e] at hf
        exact hf
      · rw [hj, if_neg e] at hf
        rw [List.all_append, barsTo_bad (i := i + 1) (by rw [barsTo]; exact hf) _ (by omega), Bool.false_and]
    have hne : l[i] ≠ l[j] := by
      by_cases e : i + 1 = l.length
      · have hc : c = true := by cases c; (simp only [Bool.false_eq_true, if_false] at hi; omega); rfl
        have := hends hc
        rw [show l.length - 1 = i by omega, hp] at this
        rw [if_pos e] at hj
        subst hj
        rw [hq] at this
        exact fun e => this (by rw [e])
      · rw [if_neg e] at hj
        subst hj
        exact hadj i _ _ hp hq
    have hbat : barAt h l i j = [barI h l[i] l[j]] := by unfold barAt; rw [hp, hq]
    have hbl := barsTo_len h l i
    rw [hbat] at hba hsub
    rw [hrt] at hO1 hR1
    generalize l[i] = u at *
    generalize l[j] = w at *
    rw [hra] at q0
    have vl := v_Long u.x u.y w.x w.y ip iq
    have hidN : id < N := hid
    have n1 := na_0 hidN
    have cc : ((i : Int) = (l.length : Int) - 1) = False ∨ c = true := by
      cases c
      · left; simp only [Bool.false_eq_true, if_false] at hi; exact eq_false (by omega)
      · right; rfl
    have hO0 := hO1.keep (m' := upd (upd M N (some ⟨[Cell.sc (Value.int .i64 0), Cell.sc (Value.int .i64 0)], true⟩)) N (some ⟨[I w.x, I w.y], true⟩)) (n' := N + 1) (by omega) (fun id _ hid _ _ => by simp only [na_0 hid, go_sem, Int.reduceTMod, Int.reduceTDiv, Int.reduceDiv, Int.reduceMod, Int.reduceAdd, Int.reduceSub, Int.reduceMul, Int.reduceNeg, Int.reducePow, Int.reduceEq, ↓reduceIte, Nat.reduceEqDiff, Nat.reduceAdd, Nat.reduceMul, Nat.reduceLeDiff, Nat.reduceSub, Nat.reduceLT, Int.reduceToNat, Int.reduceLT, Int.reduceLE, reduceCtorEq])
    have fin : longQ u w = false → ∀ (s : St), s.e 13 = RI (i + 1 : Nat) → s.e 0 = r → s.e 1 = RB c → s.e 2 = RI h → s.e 3 = RI cp → s.e 11 = RI l.length → n ≤ s.n → (∀ id, id ≤ p → s.m id = m id) → OPs p p p s.m s.n (s.e 10) ((barsTo h l i).map (·.2) ++ [barQ u w h]) → XK TA (.loop L) s K := fun hlg s a1 a2 a3 a4 a5 a6 a7 a8 a9 =>
      next s ⟨a1, a2, a3, a4, a5, a6, a7, a8, by rw [hba, List.map_append]; exact a9, fun x hx => (by
        rw [hba, List.mem_append] at hx
        rcases hx with hx | hx
        · exact hR1 x hx
        · rw [List.mem_singleton] at hx
          subst hx
          simp only [barI, hlg, Bool.not_false, Bool.true_and]), fun k hk hkl p' q' hp' hq' => (by
        by_cases e : k = i
        · subst e
          rw [if_neg (by omega)] at hj
          subst hj
          rw [hp] at hp'
          rw [hq] at hq'
          obtain rfl := Option.some.inj hp'
          obtain rfl := Option.some.inj hq'
          exact hlg
        · exact hL1 k (by omega) hkl p' q' hp' hq')⟩
    cases c
    · have ce : ((i : Int) = (l.length : Int) - 1) = False := eq_false (by simp only [Bool.false_eq_true, if_false] at hi; omega)
      cases hlg : longQ u w
      · rw [show longB (w.x - u.x) (w.y - u.y) = false from hlg] at vl
        try simp only [r18_0, r18_1, r18_2, r18_3, r18_4, r18_5, r18_6, r18_7, r18_8, r18_9, r18_10, r18_12, r18_13, r18_14, r18_15, r18_16, r18_11, r18_17, r18_18, r18_20, r18_21, r18_19, r18_22, r18_23, r18_24, r18_25, r18_26, r18_27, r18_29, r18_30, r18_28, r18_31, c18, F18, l18_0, l18_1, l18_2, q13, q0, q1, q2, q3, q11, c1, c2, c2', c3, c3', c5, c7, c8, c9, ce, hrd, hrd', n1, vl, Int.toNat_natCast, go_sem, Int.reduceTMod, Int.reduceTDiv, Int.reduceDiv, Int.reduceMod, Int.reduceAdd, Int.reduceSub, Int.reduceMul, Int.reduceNeg, Int.reducePow, Int.reduceEq, ↓reduceIte, Nat.reduceEqDiff, Nat.reduceAdd, Nat.reduceMul, Nat.reduceLeDiff, Nat.reduceSub, Nat.reduceLT, Int.reduceToNat, Int.reduceLT, Int.reduceLE, reduceCtorEq]
        repeat' ((first | refine FK_split (fun h_ => ?_) (fun h_ => ?_) | refine GK_split (fun h_ => ?_) (fun h_ => ?_) | refine ite_both (fun h_ => ?_) (fun h_ => ?_)) <;> (try simp only [decide_eq_true_eq, decide_eq_false_iff_not, Bool.not_true, Bool.not_false, Bool.not_eq_true', Bool.not_eq_false', Bool.not_eq_eq_eq_not, Decidable.not_not] at h_) <;> (try simp only [r18_0, r18_1, r18_2, r18_3, r18_4, r18_5, r18_6, r18_7, r18_8, r18_9, r18_10, r18_12, r18_13, r18_14, r18_15, r18_16, r18_11, r18_17, r18_18, r18_20, r18_21, r18_19, r18_22, r18_23, r18_24, r18_25, r18_26, r18_27, r18_29, r18_30, r18_28, r18_31, c18, F18, l18_0, l18_1, l18_2, q13, q0, q1, q2, q3, q11, c1, c2, c2', c3, c3', c5, c7, c8, c9, ce, hrd, hrd', n1, vl, Int.toNat_natCast, h_, go_sem, Int.reduceTMod, Int.reduceTDiv, Int.reduceDiv, Int.reduceMod, Int.reduceAdd, Int.reduceSub, Int.reduceMul, Int.reduceNeg, Int.reducePow, Int.reduceEq, ↓reduceIte, Nat.reduceEqDiff, Nat.reduceAdd, Nat.reduceMul, Nat.reduceLeDiff, Nat.reduceSub, Nat.reduceLT, Int.reduceToNat, Int.reduceLT, Int.reduceLE, reduceCtorEq]))
        refine RK_callk ?_
        refine (w_rBar ip iq hne h1 h2 hlg _ _).mono ?_
        rintro r1 m1 n1 ⟨hn1, x, rfl, hx, hxi⟩
        obtain ⟨hO2, hx2, hx3⟩ := row_after hO0 (by omega) hx hxi
        try simp only [r18_0, r18_1, r18_2, r18_3, r18_4, r18_5, r18_6, r18_7, r18_8, r18_9, r18_10, r18_12, r18_13, r18_14, r18_15, r18_16, r18_11, r18_17, r18_18, r18_20, r18_21, r18_19, r18_22, r18_23, r18_24, r18_25, r18_26, r18_27, r18_29, r18_30, r18_28, r18_31, c18, F18, go_sem, Int.reduceTMod, Int.reduceTDiv, Int.reduceDiv, Int.reduceMod, Int.reduceAdd, Int.reduceSub, Int.reduceMul, Int.reduceNeg, Int.reducePow, Int.reduceEq, ↓reduceIte, Nat.reduceEqDiff, Nat.reduceAdd, Nat.reduceMul, Nat.reduceLeDiff, Nat.reduceSub, Nat.reduceLT, Int.reduceToNat, Int.reduceLT, Int.reduceLE, reduceCtorEq]
        repeat' ((first | refine FK_split (fun h_ => ?_) (fun h_ => ?_) | refine GK_split (fun h_ => ?_) (fun h_ => ?_) | refine ite_both (fun h_ => ?_) (fun h_ => ?_)) <;> (try simp only [decide_eq_true_eq, decide_eq_false_iff_not, Bool.not_true, Bool.not_false, Bool.not_eq_true', Bool.not_eq_false', Bool.not_eq_eq_eq_not, Decidable.not_not] at h_) <;> (try simp only [r18_0, r18_1, r18_2, r18_3, r18_4, r18_5, r18_6, r18_7, r18_8, r18_9, r18_10, r18_12, r18_13, r18_14, r18_15, r18_16, r18_11, r18_17, r18_18, r18_20, r18_21, r18_19, r18_22, r18_23, r18_24, r18_25, r18_26, r18_27, r18_29, r18_30, r18_28, r18_31, c18, F18, h_, go_sem, Int.reduceTMod, Int.reduceTDiv, Int.reduceDiv, Int.reduceMod, Int.reduceAdd, Int.reduceSub, Int.reduceMul, Int.reduceNeg, Int.reducePow, Int.reduceEq, ↓reduceIte, Nat.reduceEqDiff, Nat.reduceAdd, Nat.reduceMul, Nat.reduceLeDiff, Nat.reduceSub, Nat.reduceLT, Int.reduceToNat, Int.reduceLT, Int.reduceLE, reduceCtorEq]))
        refine row_push hO2 (by omega) hx2 hx3 (by rw [List.length_map]; omega) ?_
        intro c' m' hO3 hf
        try simp only [r18_0, r18_1, r18_2, r18_3, r18_4, r18_5, r18_6, r18_7, r18_8, r18_9, r18_10, r18_12, r18_13, r18_14, r18_15, r18_16, r18_11, r18_17, r18_18, r18_20, r18_21, r18_19, r18_22, r18_23, r18_24, r18_25, r18_26, r18_27, r18_29, r18_30, r18_28, r18_31, c18, F18, q13, q0, q1, q2, q3, q11, c7, go_sem, Int.reduceTMod, Int.reduceTDiv, Int.reduceDiv, Int.reduceMod, Int.reduceAdd, Int.reduceSub, Int.reduceMul, Int.reduceNeg, Int.reducePow, Int.reduceEq, ↓reduceIte, Nat.reduceEqDiff, Nat.reduceAdd, Nat.reduceMul, Nat.reduceLeDiff, Nat.reduceSub, Nat.reduceLT, Int.reduceToNat, Int.reduceLT, Int.reduceLE, reduceCtorEq]
        repeat' ((first | refine FK_split (fun h_ => ?_) (fun h_ => ?_) | refine GK_split (fun h_ => ?_) (fun h_ => ?_) | refine ite_both (fun h_ => ?_) (fun h_ => ?_)) <;> (try simp only [decide_eq_true_eq, decide_eq_false_iff_not, Bool.not_true, Bool.not_false, Bool.not_eq_true', Bool.not_eq_false', Bool.not_eq_eq_eq_not, Decidable.not_not] at h_) <;> (try simp only [r18_0, r18_1, r18_2, r18_3, r18_4, r18_5, r18_6, r18_7, r18_8, r18_9, r18_10, r18_12, r18_13, r18_14, r18_15, r18_16, r18_11, r18_17, r18_18, r18_20, r18_21, r18_19, r18_22, r18_23, r18_24, r18_25, r18_26, r18_27, r18_29, r18_30, r18_28, r18_31, c18, F18, q13, q0, q1, q2, q3, q11, c7, h_, go_sem, Int.reduceTMod, Int.reduceTDiv, Int.reduceDiv, Int.reduceMod, Int.reduceAdd, Int.reduceSub, Int.reduceMul, Int.reduceNeg, Int.reducePow, Int.reduceEq, ↓reduceIte, Nat.reduceEqDiff, Nat.reduceAdd, Nat.reduceMul, Nat.reduceLeDiff, Nat.reduceSub, Nat.reduceLT, Int.reduceToNat, Int.reduceLT, Int.reduceLE, reduceCtorEq]))
        refine fin hlg _ ?_ ?_ ?_ ?_ ?_ ?_ ?_ ?_ ?_
        · simp only [go_sem, Int.reduceTMod, Int.reduceTDiv, Int.reduceDiv, Int.reduceMod, Int.reduceAdd, Int.reduceSub, Int.reduceMul, Int.reduceNeg, Int.reducePow, Int.reduceEq, ↓reduceIte, Nat.reduceEqDiff, Nat.reduceAdd, Nat.reduceMul, Nat.reduceLeDiff, Nat.reduceSub, Nat.reduceLT, Int.reduceToNat, Int.reduceLT, Int.reduceLE, reduceCtorEq]
        · simp only [q0, hra, go_sem, Int.reduceTMod, Int.reduceTDiv, Int.reduceDiv, Int.reduceMod, Int.reduceAdd, Int.reduceSub, Int.reduceMul, Int.reduceNeg, Int.reducePow, Int.reduceEq, ↓reduceIte, Nat.reduceEqDiff, Nat.reduceAdd, Nat.reduceMul, Nat.reduceLeDiff, Nat.reduceSub, Nat.reduceLT, Int.reduceToNat, Int.reduceLT, Int.reduceLE, reduceCtorEq]
        · simp only [q1, go_sem, Int.reduceTMod, Int.reduceTDiv, Int.reduceDiv, Int.reduceMod, Int.reduceAdd, Int.reduceSub, Int.reduceMul, Int.reduceNeg, Int.reducePow, Int.reduceEq, ↓reduceIte, Nat.reduceEqDiff, Nat.reduceAdd, Nat.reduceMul, Nat.reduceLeDiff, Nat.reduceSub, Nat.reduceLT, Int.reduceToNat, Int.reduceLT, Int.reduceLE, reduceCtorEq]
        · simp only [q2, go_sem, Int.reduceTMod, Int.reduceTDiv, Int.reduceDiv, Int.reduceMod, Int.reduceAdd, Int.reduceSub, Int.reduceMul, Int.reduceNeg, Int.reducePow, Int.reduceEq, ↓reduceIte, Nat.reduceEqDiff, Nat.reduceAdd, Nat.reduceMul, Nat.reduceLeDiff, Nat.reduceSub, Nat.reduceLT, Int.reduceToNat, Int.reduceLT, Int.reduceLE, reduceCtorEq]
        · simp only [q3, go_sem, Int.reduceTMod, Int.reduceTDiv, Int.reduceDiv, Int.reduceMod, Int.reduceAdd, Int.reduceSub, Int.reduceMul, Int.reduceNeg, Int.reducePow, Int.reduceEq, ↓reduceIte, Nat.reduceEqDiff, Nat.reduceAdd, Nat.reduceMul, Nat.reduceLeDiff, Nat.reduceSub, Nat.reduceLT, Int.reduceToNat, Int.reduceLT, Int.reduceLE, reduceCtorEq]
        · simp only [q11, go_sem, Int.reduceTMod, Int.reduceTDiv, Int.reduceDiv, Int.reduceMod, Int.reduceAdd, Int.reduceSub, Int.reduceMul, Int.reduceNeg, Int.reducePow, Int.reduceEq, ↓reduceIte, Nat.reduceEqDiff, Nat.reduceAdd, Nat.reduceMul, Nat.reduceLeDiff, Nat.reduceSub, Nat.reduceLT, Int.reduceToNat, Int.reduceLT, Int.reduceLE, reduceCtorEq]
        · simp only; omega
        · intro k hk
          simp only
          rw [hf k hk, unfrz_at, if_pos (by omega)]
          simp only [na_0 (show k < N by omega), qm k hk, go_sem, Int.reduceTMod, Int.reduceTDiv, Int.reduceDiv, Int.reduceMod, Int.reduceAdd, Int.reduceSub, Int.reduceMul, Int.reduceNeg, Int.reducePow, Int.reduceEq, ↓reduceIte, Nat.reduceEqDiff, Nat.reduceAdd, Nat.reduceMul, Nat.reduceLeDiff, Nat.reduceSub, Nat.reduceLT, Int.reduceToNat, Int.reduceLT, Int.reduceLE, reduceCtorEq]
        · simp only [go_sem, Int.reduceTMod, Int.reduceTDiv, Int.reduceDiv, Int.reduceMod, Int.reduceAdd, Int.reduceSub, Int.reduceMul, Int.reduceNeg, Int.reducePow, Int.reduceEq, ↓reduceIte, Nat.reduceEqDiff, Nat.reduceAdd, Nat.reduceMul, Nat.reduceLeDiff, Nat.reduceSub, Nat.reduceLT, Int.reduceToNat, Int.reduceLT, Int.reduceLE, reduceCtorEq]
          exact hO3
      · rw [show longB (w.x - u.x) (w.y - u.y) = true from hlg] at vl
        try simp only [r18_0, r18_1, r18_2, r18_3, r18_4, r18_5, r18_6, r18_7, r18_8, r18_9, r18_10, r18_12, r18_13, r18_14, r18_15, r18_16, r18_11, r18_17, r18_18, r18_20, r18_21, r18_19, r18_22, r18_23, r18_24, r18_25, r18_26, r18_27, r18_29, r18_30, r18_28, r18_31, c18, F18, l18_0, l18_1, l18_2, q13, q0, q1, q2, q3, q11, c1, c2, c2', c3, c3', c5, c7, c8, c9, ce, hrd, hrd', n1, vl, Int.toNat_natCast, go_sem, Int.reduceTMod, Int.reduceTDiv, Int.reduceDiv, Int.reduceMod, Int.reduceAdd, Int.reduceSub, Int.reduceMul, Int.reduceNeg, Int.reducePow, Int.reduceEq, ↓reduceIte, Nat.reduceEqDiff, Nat.reduceAdd, Nat.reduceMul, Nat.reduceLeDiff, Nat.reduceSub, Nat.reduceLT, Int.reduceToNat, Int.reduceLT, Int.reduceLE, reduceCtorEq]
        repeat' ((first | refine FK_split (fun h_ => ?_) (fun h_ => ?_) | refine GK_split (fun h_ => ?_) (fun h_ => ?_) | refine ite_both (fun h_ => ?_) (fun h_ => ?_)) <;> (try simp only [decide_eq_true_eq, decide_eq_false_iff_not, Bool.not_true, Bool.not_false, Bool.not_eq_true', Bool.not_eq_false', Bool.not_eq_eq_eq_not, Decidable.not_not] at h_) <;> (try simp only [r18_0, r18_1, r18_2, r18_3, r18_4, r18_5, r18_6, r18_7, r18_8, r18_9, r18_10, r18_12, r18_13, r18_14, r18_15, r18_16, r18_11, r18_17, r18_18, r18_20, r18_21, r18_19, r18_22, r18_23, r18_24, r18_25, r18_26, r18_27, r18_29, r18_30, r18_28, r18_31, c18, F18, l18_0, l18_1, l18_2, q13, q0, q1, q2, q3, q11, c1, c2, c2', c3, c3', c5, c7, c8, c9, ce, hrd, hrd', n1, vl, Int.toNat_natCast, h_, go_sem, Int.reduceTMod, Int.reduceTDiv, Int.reduceDiv, Int.reduceMod, Int.reduceAdd, Int.reduceSub, Int.reduceMul, Int.reduceNeg, Int.reducePow, Int.reduceEq, ↓reduceIte, Nat.reduceEqDiff, Nat.reduceAdd, Nat.reduceMul, Nat.reduceLeDiff, Nat.reduceSub, Nat.reduceLT, Int.reduceToNat, Int.reduceLT, Int.reduceLE, reduceCtorEq]))
        refine hret (hsub ?_) _ ?_ ?_ ?_
        · rw [List.all_append]
          simp [barI, hlg]
        · simp only [go_sem, Int.reduceTMod, Int.reduceTDiv, Int.reduceDiv, Int.reduceMod, Int.reduceAdd, Int.reduceSub, Int.reduceMul, Int.reduceNeg, Int.reducePow, Int.reduceEq, ↓reduceIte, Nat.reduceEqDiff, Nat.reduceAdd, Nat.reduceMul, Nat.reduceLeDiff, Nat.reduceSub, Nat.reduceLT, Int.reduceToNat, Int.reduceLT, Int.reduceLE, reduceCtorEq]
        · simp only [go_sem, Int.reduceTMod, Int.reduceTDiv, Int.reduceDiv, Int.reduceMod, Int.reduceAdd, Int.reduceSub, Int.reduceMul, Int.reduceNeg, Int.reducePow, Int.reduceEq, ↓reduceIte, Nat.reduceEqDiff, Nat.reduceAdd, Nat.reduceMul, Nat.reduceLeDiff, Nat.reduceSub, Nat.reduceLT, Int.reduceToNat, Int.reduceLT, Int.reduceLE, reduceCtorEq]
        · simp only; omega
    · by_cases e : (i : Int) = (l.length : Int) - 1
      · have ce : ((i : Int) = (l.length : Int) - 1) = True := eq_true e
        cases hlg : longQ u w
        · rw [show longB (w.x - u.x) (w.y - u.y) = false from hlg] at vl
          try simp only [r18_0, r18_1, r18_2, r18_3, r18_4, r18_5, r18_6, r18_7, r18_8, r18_9, r18_10, r18_12, r18_13, r18_14, r18_15, r18_16, r18_11, r18_17, r18_18, r18_20, r18_21, r18_19, r18_22, r18_23, r18_24, r18_25, r18_26, r18_27, r18_29, r18_30, r18_28, r18_31, c18, F18, l18_0, l18_1, l18_2, q13, q0, q1, q2, q3, q11, c1, c2, c2', c3, c3', c5, c7, c8, c9, ce, hrd, hrd', n1, vl, Int.toNat_natCast, go_sem, Int.reduceTMod, Int.reduceTDiv, Int.reduceDiv, Int.reduceMod, Int.reduceAdd, Int.reduceSub, Int.reduceMul, Int.reduceNeg, Int.reducePow, Int.reduceEq, ↓reduceIte, Nat.reduceEqDiff, Nat.reduceAdd, Nat.reduceMul, Nat.reduceLeDiff, Nat.reduceSub, Nat.reduceLT, Int.reduceToNat, Int.reduceLT, Int.reduceLE, reduceCtorEq]
          repeat' ((first | refine FK_split (fun h_ => ?_) (fun h_ => ?_) | refine GK_split (fun h_ => ?_) (fun h_ => ?_) | refine ite_both (fun h_ => ?_) (fun h_ => ?_)) <;> (try simp only [decide_eq_true_eq, decide_eq_false_iff_not, Bool.not_true, Bool.not_false, Bool.not_eq_true', Bool.not_eq_false', Bool.not_eq_eq_eq_not, Decidable.not_not] at h_) <;> (try simp only [r18_0, r18_1, r18_2, r18_3, r18_4, r18_5, r18_6, r18_7, r18_8, r18_9, r18_10, r18_12, r18_13, r18_14, r18_15, r18_16, r18_11, r18_17, r18_18, r18_20, r18_21, r18_19, r18_22, r18_23, r18_24, r18_25, r18_26, r18_27, r18_29, r18_30, r18_28, r18_31, c18, F18, l18_0, l18_1, l18_2, q13, q0, q1, q2, q3, q11, c1, c2, c2', c3, c3', c5, c7, c8, c9, ce, hrd, hrd', n1, vl, Int.toNat_natCast, h_, go_sem, Int.reduceTMod, Int.reduceTDiv, Int.reduceDiv, Int.reduceMod, Int.reduceAdd, Int.reduceSub, Int.reduceMul, Int.reduceNeg, Int.reducePow, Int.reduceEq, ↓reduceIte, Nat.reduceEqDiff, Nat.reduceAdd, Nat.reduceMul, Nat.reduceLeDiff, Nat.reduceSub, Nat.reduceLT, Int.reduceToNat, Int.reduceLT, Int.reduceLE, reduceCtorEq]))
          refine RK_callk ?_
          refine (w_rBar ip iq hne h1 h2 hlg _ _).mono ?_
          rintro r1 m1 n1 ⟨hn1, x, rfl, hx, hxi⟩
          obtain ⟨hO2, hx2, hx3⟩ := row_after hO0 (by omega) hx hxi
          try simp only [r18_0, r18_1, r18_2, r18_3, r18_4, r18_5, r18_6, r18_7, r18_8, r18_9, r18_10, r18_12, r18_13, r18_14, r18_15, r18_16, r18_11, r18_17, r18_18, r18_20, r18_21, r18_19, r18_22, r18_23, r18_24, r18_25, r18_26, r18_27, r18_29, r18_30, r18_28, r18_31, c18, F18, go_sem, Int.reduceTMod, Int.reduceTDiv, Int.reduceDiv, Int.reduceMod, Int.reduceAdd, Int.reduceSub, Int.reduceMul, Int.reduceNeg, Int.reducePow, Int.reduceEq, ↓reduceIte, Nat.reduceEqDiff, Nat.reduceAdd, Nat.reduceMul, Nat.reduceLeDiff, Nat.reduceSub, Nat.reduceLT, Int.reduceToNat, Int.reduceLT, Int.reduceLE, reduceCtorEq]
          repeat' ((first | refine FK_split (fun h_ => ?_) (fun h_ => ?_) | refine GK_split (fun h_ => ?_) (fun h_ => ?_) | refine ite_both (fun h_ => ?_) (fun h_ => ?_)) <;> (try simp only [decide_eq_true_eq, decide_eq_false_iff_not, Bool.not_true, Bool.not_false, Bool.not_eq_true', Bool.not_eq_false', Bool.not_eq_eq_eq_not, Decidable.not_not] at h_) <;> (try simp only [r18_0, r18_1, r18_2, r18_3, r18_4, r18_5, r18_6, r18_7, r18_8, r18_9, r18_10, r18_12, r18_13, r18_14, r18_15, r18_16, r18_11, r18_17, r18_18, r18_20, r18_21, r18_19, r18_22, r18_23, r18_24, r18_25, r18_26, r18_27, r18_29, r18_30, r18_28, r18_31, c18, F18, h_, go_sem, Int.reduceTMod, Int.reduceTDiv, Int.reduceDiv, Int.reduceMod, Int.reduceAdd, Int.reduceSub, Int.reduceMul, Int.reduceNeg, Int.reducePow, Int.reduceEq, ↓reduceIte, Nat.reduceEqDiff, Nat.reduceAdd, Nat.reduceMul, Nat.reduceLeDiff, Nat.reduceSub, Nat.reduceLT, Int.reduceToNat, Int.reduceLT, Int.reduceLE, reduceCtorEq]))
          refine row_push hO2 (by omega) hx2 hx3 (by rw [List.length_map]; omega) ?_
          intro c' m' hO3 hf
          try simp only [r18_0, r18_1, r18_2, r18_3, r18_4, r18_5, r18_6, r18_7, r18_8, r18_9, r18_10, r18_12, r18_13, r18_14, r18_15, r18_16, r18_11, r18_17, r18_18, r18_20, r18_21, r18_19, r18_22, r18_23, r18_24, r18_25, r18_26, r18_27, r18_29, r18_30, r18_28, r18_31, c18, F18, q13, q0, q1, q2, q3, q11, c7, go_sem, Int.reduceTMod, Int.reduceTDiv, Int.reduceDiv, Int.reduceMod, Int.reduceAdd, Int.reduceSub, Int.reduceMul, Int.reduceNeg, Int.reducePow, Int.reduceEq, ↓reduceIte, Nat.reduceEqDiff, Nat.reduceAdd, Nat.reduceMul, Nat.reduceLeDiff, Nat.reduceSub, Nat.reduceLT, Int.reduceToNat, Int.reduceLT, Int.reduceLE, reduceCtorEq]
          repeat' ((first | refine FK_split (fun h_ => ?_) (fun h_ => ?_) | refine GK_split (fun h_ => ?_) (fun h_ => ?_) | refine ite_both (fun h_ => ?_) (fun h_ => ?_)) <;> (try simp only [decide_eq_true_eq, decide_eq_false_iff_not, Bool.not_true, Bool.not_false, Bool.not_eq_true', Bool.not_eq_false', Bool.not_eq_eq_eq_not, Decidable.not_not] at h_) <;> (try simp only [r18_0, r18_1, r18_2, r18_3, r18_4, r18_5, r18_6, r18_7, r18_8, r18_9, r18_10, r18_12, r18_13, r18_14, r18_15, r18_16, r18_11, r18_17, r18_18, r18_20, r18_21, r18_19, r18_22, r18_23, r18_24, r18_25, r18_26, r18_27, r18_29, r18_30, r18_28, r18_31, c18, F18, q13, q0, q1, q2, q3, q11, c7, h_, go_sem, Int.reduceTMod, Int.reduceTDiv, Int.reduceDiv, Int.reduceMod, Int.reduceAdd, Int.reduceSub, Int.reduceMul, Int.reduceNeg, Int.reducePow, Int.reduceEq, ↓reduceIte, Nat.reduceEqDiff, Nat.reduceAdd, Nat.reduceMul, Nat.reduceLeDiff, Nat.reduceSub, Nat.reduceLT, Int.reduceToNat, Int.reduceLT, Int.reduceLE, reduceCtorEq]))
          refine fin hlg _ ?_ ?_ ?_ ?_ ?_ ?_ ?_ ?_ ?_
          · simp only [go_sem, Int.reduceTMod, Int.reduceTDiv, Int.reduceDiv, Int.reduceMod, Int.reduceAdd, Int.reduceSub, Int.reduceMul, Int.reduceNeg, Int.reducePow, Int.reduceEq, ↓reduceIte, Nat.reduceEqDiff, Nat.reduceAdd, Nat.reduceMul, Nat.reduceLeDiff, Nat.reduceSub, Nat.reduceLT, Int.reduceToNat, Int.reduceLT, Int.reduceLE, reduceCtorEq]
          · simp only [q0, hra, go_sem, Int.reduceTMod, Int.reduceTDiv, Int.reduceDiv, Int.reduceMod, Int.reduceAdd, Int.reduceSub, Int.reduceMul, Int.reduceNeg, Int.reducePow, Int.reduceEq, ↓reduceIte, Nat.reduceEqDiff, Nat.reduceAdd, Nat.reduceMul, Nat.reduceLeDiff, Nat.reduceSub, Nat.reduceLT, Int.reduceToNat, Int.reduceLT, Int.reduceLE, reduceCtorEq]
          · simp only [q1, go_sem, Int.reduceTMod, Int.reduceTDiv, Int.reduceDiv, Int.reduceMod, Int.reduceAdd, Int.reduceSub, Int.reduceMul, Int.reduceNeg, Int.reducePow, Int.reduceEq, ↓reduceIte, Nat.reduceEqDiff, Nat.reduceAdd, Nat.reduceMul, Nat.reduceLeDiff, Nat.reduceSub, Nat.reduceLT, Int.reduceToNat, Int.reduceLT, Int.reduceLE, reduceCtorEq]
          · simp only [q2, go_sem, Int.reduceTMod, Int.reduceTDiv, Int.reduceDiv, Int.reduceMod, Int.reduceAdd, Int.reduceSub, Int.reduceMul, Int.reduceNeg, Int.reducePow, Int.reduceEq, ↓reduceIte, Nat.reduceEqDiff, Nat.reduceAdd, Nat.reduceMul, Nat.reduceLeDiff, Nat.reduceSub, Nat.reduceLT, Int.reduceToNat, Int.reduceLT, Int.reduceLE, reduceCtorEq]
          · simp only [q3, go_sem, Int.reduceTMod, Int.reduceTDiv, Int.reduceDiv, Int.reduceMod, Int.reduceAdd, Int.reduceSub, Int.reduceMul, Int.reduceNeg, Int.reducePow, Int.reduceEq, ↓reduceIte, Nat.reduceEqDiff, Nat.reduceAdd, Nat.reduceMul, Nat.reduceLeDiff, Nat.reduceSub, Nat.reduceLT, Int.reduceToNat, Int.reduceLT, Int.reduceLE, reduceCtorEq]
          · simp only [q11, go_sem, Int.reduceTMod, Int.reduceTDiv, Int.reduceDiv, Int.reduceMod, Int.reduceAdd, Int.reduceSub, Int.reduceMul, Int.reduceNeg, Int.reducePow, Int.reduceEq, ↓reduceIte, Nat.reduceEqDiff, Nat.reduceAdd, Nat.reduceMul, Nat.reduceLeDiff, Nat.reduceSub, Nat.reduceLT, Int.reduceToNat, Int.reduceLT, Int.reduceLE, reduceCtorEq]
          · simp only; omega
          · intro k hk
            simp only
            rw [hf k hk, unfrz_at, if_pos (by omega)]
            simp only [na_0 (show k < N by omega), qm k hk, go_sem, Int.reduceTMod, Int.reduceTDiv, Int.reduceDiv, Int.reduceMod, Int.reduceAdd, Int.reduceSub, Int.reduceMul, Int.reduceNeg, Int.reducePow, Int.reduceEq, ↓reduceIte, Nat.reduceEqDiff, Nat.reduceAdd, Nat.reduceMul, Nat.reduceLeDiff, Nat.reduceSub, Nat.reduceLT, Int.reduceToNat, Int.reduceLT, Int.reduceLE, reduceCtorEq]
          · simp only [go_sem, Int.reduceTMod, Int.reduceTDiv, Int.reduceDiv, Int.reduceMod, Int.reduceAdd, Int.reduceSub, Int.reduceMul, Int.reduceNeg, Int.reducePow, Int.reduceEq, ↓reduceIte, Nat.reduceEqDiff, Nat.reduceAdd, Nat.reduceMul, Nat.reduceLeDiff, Nat.reduceSub, Nat.reduceLT, Int.reduceToNat, Int.reduceLT, Int.reduceLE, reduceCtorEq]
            exact hO3
        · rw [show longB (w.x - u.x) (w.y - u.y) = true from hlg] at vl
          try simp only [r18_0, r18_1, r18_2, r18_3, r18_4, r18_5, r18_6, r18_7, r18_8, r18_9, r18_10, r18_12, r18_13, r18_14, r18_15, r18_16, r18_11, r18_17, r18_18, r18_20, r18_21, r18_19, r18_22, r18_23, r18_24, r18_25, r18_26, r18_27, r18_29, r18_30, r18_28, r18_31, c18, F18, l18_0, l18_1, l18_2, q13, q0, q1, q2, q3, q11, c1, c2, c2', c3, c3', c5, c7, c8, c9, ce, hrd, hrd', n1, vl, Int.toNat_natCast, go_sem, Int.reduceTMod, Int.reduceTDiv, Int.reduceDiv, Int.reduceMod, Int.reduceAdd, Int.reduceSub, Int.reduceMul, Int.reduceNeg, Int.reducePow, Int.reduceEq, ↓reduceIte, Nat.reduceEqDiff, Nat.reduceAdd, Nat.reduceMul, Nat.reduceLeDiff, Nat.reduceSub, Nat.reduceLT, Int.reduceToNat, Int.reduceLT, Int.reduceLE, reduceCtorEq]
          repeat' ((first | refine FK_split (fun h_ => ?_) (fun h_ => ?_) | refine GK_split (fun h_ => ?_) (fun h_ => ?_) | refine ite_both (fun h_ => ?_) (fun h_ => ?_)) <;> (try simp only [decide_eq_true_eq, decide_eq_false_iff_not, Bool.not_true, Bool.not_false, Bool.not_eq_true', Bool.not_eq_false', Bool.not_eq_eq_eq_not, Decidable.not_not] at h_) <;> (try simp only [r18_0, r18_1, r18_2, r18_3, r18_4, r18_5, r18_6, r18_7, r18_8, r18_9, r18_10, r18_12, r18_13, r18_14, r18_15, r18_16, r18_11, r18_17, r18_18, r18_20, r18_21, r18_19, r18_22, r18_23, r18_24, r18_25, r18_26, r18_27, r18_29, r18_30, r18_28, r18_31, c18, F18, l18_0, l18_1, l18_2, q13, q0, q1, q2, q3, q11, c1, c2, c2', c3, c3', c5, c7, c8, c9, ce, hrd, hrd', n1, vl, Int.toNat_natCast, h_, go_sem, Int.reduceTMod, Int.reduceTDiv, Int.reduceDiv, Int.reduceMod, Int.reduceAdd, Int.reduceSub, Int.reduceMul, Int.reduceNeg, Int.reducePow, Int.reduceEq, ↓reduceIte, Nat.reduceEqDiff, Nat.reduceAdd, Nat.reduceMul, Nat.reduceLeDiff, Nat.reduceSub, Nat.reduceLT, Int.reduceToNat, Int.reduceLT, Int.reduceLE, reduceCtorEq]))
          refine hret (hsub ?_) _ ?_ ?_ ?_
          · rw [List.all_append]
            simp [barI, hlg]
          · simp only [go_sem, Int.reduceTMod, Int.reduceTDiv, Int.reduceDiv, Int.reduceMod, Int.reduceAdd, Int.reduceSub, Int.reduceMul, Int.reduceNeg, Int.reducePow, Int.reduceEq, ↓reduceIte, Nat.reduceEqDiff, Nat.reduceAdd, Nat.reduceMul, Nat.reduceLeDiff, Nat.reduceSub, Nat.reduceLT, Int.reduceToNat, Int.reduceLT, Int.reduceLE, reduceCtorEq]
          · simp only [go_sem, Int.reduceTMod, Int.reduceTDiv, Int.reduceDiv, Int.reduceMod, Int.reduceAdd, Int.reduceSub, Int.reduceMul, Int.reduceNeg, Int.reducePow, Int.reduceEq, ↓reduceIte, Nat.reduceEqDiff, Nat.reduceAdd, Nat.reduceMul, Nat.reduceLeDiff, Nat.reduceSub, Nat.reduceLT, Int.reduceToNat, Int.reduceLT, Int.reduceLE, reduceCtorEq]
          · simp only; omega
      · have ce : ((i : Int) = (l.length : Int) - 1) = False := eq_false e
        cases hlg : longQ u w
        · rw [show longB (w.x - u.x) (w.y - u.y) = false from hlg] at vl
          try simp only [r18_0, r18_1, r18_2, r18_3, r18_4, r18_5, r18_6, r18_7, r18_8, r18_9, r18_10, r18_12, r18_13, r18_14, r18_15, r18_16, r18_11, r18_17, r18_18, r18_20, r18_21, r18_19, r18_22, r18_23, r18_24, r18_25, r18_26, r18_27, r18_29, r18_30, r18_28, r18_31, c18, F18, l18_0, l18_1, l18_2, q13, q0, q1, q2, q3, q11, c1, c2, c2', c3, c3', c5, c7, c8, c9, ce, hrd, hrd', n1, vl, Int.toNat_natCast, go_sem, Int.reduceTMod, Int.reduceTDiv, Int.reduceDiv, Int.reduceMod, Int.reduceAdd, Int.reduceSub, Int.reduceMul, Int.reduceNeg, Int.reducePow, Int.reduceEq, ↓reduceIte, Nat.reduceEqDiff, Nat.reduceAdd, Nat.reduceMul, Nat.reduceLeDiff, Nat.reduceSub, Nat.reduceLT, Int.reduceToNat, Int.reduceLT, Int.reduceLE, reduceCtorEq]
          repeat' ((first | refine FK_split (fun h_ => ?_) (fun h_ => ?_) | refine GK_split (fun h_ => ?_) (fun h_ => ?_) | refine ite_both (fun h_ => ?_) (fun h_ => ?_)) <;> (try simp only [decide_eq_true_eq, decide_eq_false_iff_not, Bool.not_true, Bool.not_false, Bool.not_eq_true', Bool.not_eq_false', Bool.not_eq_eq_eq_not, Decidable.not_not] at h_) <;> (try simp only [r18_0, r18_1, r18_2, r18_3, r18_4, r18_5, r18_6, r18_7, r18_8, r18_9, r18_10, r18_12, r18_13, r18_14, r18_15, r18_16, r18_11, r18_17, r18_18, r18_20, r18_21, r18_19, r18_22, r18_23, r18_24, r18_25, r18_26, r18_27, r18_29, r18_30, r18_28, r18_31, c18, F18, l18_0, l18_1, l18_2, q13, q0, q1, q2, q3, q11, c1, c2, c2', c3, c3', c5, c7, c8, c9, ce, hrd, hrd', n1, vl, Int.toNat_natCast, h_, go_sem, Int.reduceTMod, Int.reduceTDiv, Int.reduceDiv, Int.reduceMod, Int.reduceAdd, Int.reduceSub, Int.reduceMul, Int.reduceNeg, Int.reducePow, Int.reduceEq, ↓reduceIte, Nat.reduceEqDiff, Nat.reduceAdd, Nat.reduceMul, Nat.reduceLeDiff, Nat.reduceSub, Nat.reduceLT, Int.reduceToNat, Int.reduceLT, Int.reduceLE, reduceCtorEq]))
          refine RK_callk ?_
          refine (w_rBar ip iq hne h1 h2 hlg _ _).mono ?_
          rintro r1 m1 n1 ⟨hn1, x, rfl, hx, hxi⟩
          obtain ⟨hO2, hx2, hx3⟩ := row_after hO0 (by omega) hx hxi
          try simp only [r18_0, r18_1, r18_2, r18_3, r18_4, r18_5, r18_6, r18_7, r18_8, r18_9, r18_10, r18_12, r18_13, r18_14, r18_15, r18_16, r18_11, r18_17, r18_18, r18_20, r18_21, r18_19, r18_22, r18_23, r18_24, r18_25, r18_26, r18_27, r18_29, r18_30, r18_28, r18_31, c18, F18, go_sem, Int.reduceTMod, Int.reduceTDiv, Int.reduceDiv, Int.reduceMod, Int.reduceAdd, Int.reduceSub, Int.reduceMul, Int.reduceNeg, Int.reducePow, Int.reduceEq, ↓reduceIte, Nat.reduceEqDiff, Nat.reduceAdd, Nat.reduceMul, Nat.reduceLeDiff, Nat.reduceSub, Nat.reduceLT, Int.reduceToNat, Int.reduceLT, Int.reduceLE, reduceCtorEq]
          repeat' ((first | refine FK_split (fun h_ => ?_) (fun h_ => ?_) | refine GK_split (fun h_ => ?_) (fun h_ => ?_) | refine ite_both (fun h_ => ?_) (fun h_ => ?_)) <;> (try simp only [decide_eq_true_eq, decide_eq_false_iff_not, Bool.not_true, Bool.not_false, Bool.not_eq_true', Bool.not_eq_false', Bool.not_eq_eq_eq_not, Decidable.not_not] at h_) <;> (try simp only [r18_0, r18_1, r18_2, r18_3, r18_4, r18_5, r18_6, r18_7, r18_8, r18_9, r18_10, r18_12, r18_13, r18_14, r18_15, r18_16, r18_11, r18_17, r18_18, r18_20, r18_21, r18_19, r18_22, r18_23, r18_24, r18_25, r18_26, r18_27, r18_29, r18_30, r18_28, r18_31, c18, F18, h_, go_sem, Int.reduceTMod, Int.reduceTDiv, Int.reduceDiv, Int.reduceMod, Int.reduceAdd, Int.reduceSub, Int.reduceMul, Int.reduceNeg, Int.reducePow, Int.reduceEq, ↓reduceIte, Nat.reduceEqDiff, Nat.reduceAdd, Nat.reduceMul, Nat.reduceLeDiff, Nat.reduceSub, Nat.reduceLT, Int.reduceToNat, Int.reduceLT, Int.reduceLE, reduceCtorEq]))
          refine row_push hO2 (by omega) hx2 hx3 (by rw [List.length_map]; omega) ?_
          intro c' m' hO3 hf
          try simp only [r18_0, r18_1, r18_2, r18_3, r18_4, r18_5, r18_6, r18_7, r18_8, r18_9, r18_10, r18_12, r18_13, r18_14, r18_15, r18_16, r18_11, r18_17, r18_18, r18_20, r18_21, r18_19, r18_22, r18_23, r18_24, r18_25, r18_26, r18_27, r18_29, r18_30, r18_28, r18_31, c18, F18, q13, q0, q1, q2, q3, q11, c7, go_sem, Int.reduceTMod, Int.reduceTDiv, Int.reduceDiv, Int.reduceMod, Int.reduceAdd, Int.reduceSub, Int.reduceMul, Int.reduceNeg, Int.reducePow, Int.reduceEq, ↓reduceIte, Nat.reduceEqDiff, Nat.reduceAdd, Nat.reduceMul, Nat.reduceLeDiff, Nat.reduceSub, Nat.reduceLT, Int.reduceToNat, Int.reduceLT, Int.reduceLE, reduceCtorEq]
          repeat' ((first | refine FK_split (fun h_ => ?_) (fun h_ => ?_) | refine GK_split (fun h_ => ?_) (fun h_ => ?_) | refine ite_both (fun h_ => ?_) (fun h_ => ?_)) <;> (try simp only [decide_eq_true_eq, decide_eq_false_iff_not, Bool.not_true, Bool.not_false, Bool.not_eq_true', Bool.not_eq_false', Bool.not_eq_eq_eq_not, Decidable.not_not] at h_) <;> (try simp only [r18_0, r18_1, r18_2, r18_3, r18_4, r18_5, r18_6, r18_7, r18_8, r18_9, r18_10, r18_12, r18_13, r18_14, r18_15, r18_16, r18_11, r18_17, r18_18, r18_20, r18_21, r18_19, r18_22, r18_23, r18_24, r18_25, r18_26, r18_27, r18_29, r18_30, r18_28, r18_31, c18, F18, q13, q0, q1, q2, q3, q11, c7, h_, go_sem, Int.reduceTMod, Int.reduceTDiv, Int.reduceDiv, Int.reduceMod, Int.reduceAdd, Int.reduceSub, Int.reduceMul, Int.reduceNeg, Int.reducePow, Int.reduceEq, ↓reduceIte, Nat.reduceEqDiff, Nat.reduceAdd, Nat.reduceMul, Nat.reduceLeDiff, Nat.reduceSub, Nat.reduceLT, Int.reduceToNat, Int.reduceLT, Int.reduceLE, reduceCtorEq]))
          refine fin hlg _ ?_ ?_ ?_ ?_ ?_ ?_ ?_ ?_ ?_
          · simp only [go_sem, Int.reduceTMod, Int.reduceTDiv, Int.reduceDiv, Int.reduceMod, Int.reduceAdd, Int.reduceSub, Int.reduceMul, Int.reduceNeg, Int.reducePow, Int.reduceEq, ↓reduceIte, Nat.reduceEqDiff, Nat.reduceAdd, Nat.reduceMul, Nat.reduceLeDiff, Nat.reduceSub, Nat.reduceLT, Int.reduceToNat, Int.reduceLT, Int.reduceLE, reduceCtorEq]
          · simp only [q0, hra, go_sem, Int.reduceTMod, Int.reduceTDiv, Int.reduceDiv, Int.reduceMod, Int.reduceAdd, Int.reduceSub, Int.reduceMul, Int.reduceNeg, Int.reducePow, Int.reduceEq, ↓reduceIte, Nat.reduceEqDiff, Nat.reduceAdd, Nat.reduceMul, Nat.reduceLeDiff, Nat.reduceSub, Nat.reduceLT, Int.reduceToNat, Int.reduceLT, Int.reduceLE, reduceCtorEq]
          · simp only [q1, go_sem, Int.reduceTMod, Int.reduceTDiv, Int.reduceDiv, Int.reduceMod, Int.reduceAdd, Int.reduceSub, Int.reduceMul, Int.reduceNeg, Int.reducePow, Int.reduceEq, ↓reduceIte, Nat.reduceEqDiff, Nat.reduceAdd, Nat.reduceMul, Nat.reduceLeDiff, Nat.reduceSub, Nat.reduceLT, Int.reduceToNat, Int.reduceLT, Int.reduceLE, reduceCtorEq]
          · simp only [q2, go_sem, Int.reduceTMod, Int.reduceTDiv, Int.reduceDiv, Int.reduceMod, Int.reduceAdd, Int.reduceSub, Int.reduceMul, Int.reduceNeg, Int.reducePow, Int.reduceEq, ↓reduceIte, Nat.reduceEqDiff, Nat.reduceAdd, Nat.reduceMul, Nat.reduceLeDiff, Nat.reduceSub, Nat.reduceLT, Int.reduceToNat, Int.reduceLT, Int.reduceLE, reduceCtorEq]
          · simp only [q3, go_sem, Int.reduceTMod, Int.reduceTDiv, Int.reduceDiv, Int.reduceMod, Int.reduceAdd, Int.reduceSub, Int.reduceMul, Int.reduceNeg, Int.reducePow, Int.reduceEq, ↓reduceIte, Nat.reduceEqDiff, Nat.reduceAdd, Nat.reduceMul, Nat.reduceLeDiff, Nat.reduceSub, Nat.reduceLT, Int.reduceToNat, Int.reduceLT, Int.reduceLE, reduceCtorEq]
          · simp only [q11, go_sem, Int.reduceTMod, Int.reduceTDiv, Int.reduceDiv, Int.reduceMod, Int.reduceAdd, Int.reduceSub, Int.reduceMul, Int.reduceNeg, Int.reducePow, Int.reduceEq, ↓reduceIte, Nat.reduceEqDiff, Nat.reduceAdd, Nat.reduceMul, Nat.reduceLeDiff, Nat.reduceSub, Nat.reduceLT, Int.reduceToNat, Int.reduceLT, Int.reduceLE, reduceCtorEq]
          · simp only; omega
          · intro k hk
            simp only
            rw [hf k hk, unfrz_at, if_pos (by omega)]
            simp only [na_0 (show k < N by omega), qm k hk, go_sem, Int.reduceTMod, Int.reduceTDiv, Int.reduceDiv, Int.reduceMod, Int.reduceAdd, Int.reduceSub, Int.reduceMul, Int.reduceNeg, Int.reducePow, Int.reduceEq, ↓reduceIte, Nat.reduceEqDiff, Nat.reduceAdd, Nat.reduceMul, Nat.reduceLeDiff, Nat.reduceSub, Nat.reduceLT, Int.reduceToNat, Int.reduceLT, Int.reduceLE, reduceCtorEq]
          · simp only [go_sem, Int.reduceTMod, Int.reduceTDiv, Int.reduceDiv, Int.reduceMod, Int.reduceAdd, Int.reduceSub, Int.reduceMul, Int.reduceNeg, Int.reducePow, Int.reduceEq, ↓reduceIte, Nat.reduceEqDiff, Nat.reduceAdd, Nat.reduceMul, Nat.reduceLeDiff, Nat.reduceSub, Nat.reduceLT, Int.reduceToNat, Int.reduceLT, Int.reduceLE, reduceCtorEq]
            exact hO3
        · rw [show longB (w.x - u.x) (w.y - u.y) = true from hlg] at vl
          try simp only [r18_0, r18_1, r18_2, r18_3, r18_4, r18_5, r18_6, r18_7, r18_8, r18_9, r18_10, r18_12, r18_13, r18_14, r18_15, r18_16, r18_11, r18_17, r18_18, r18_20, r18_21, r18_19, r18_22, r18_23, r18_24, r18_25, r18_26, r18_27, r18_29, r18_30, r18_28, r18_31, c18, F18, l18_0, l18_1, l18_2, q13, q0, q1, q2, q3, q11, c1, c2, c2', c3, c3', c5, c7, c8, c9, ce, hrd, hrd', n1, vl, Int.toNat_natCast, go_sem, Int.reduceTMod, Int.reduceTDiv, Int.reduceDiv, Int.reduceMod, Int.reduceAdd, Int.reduceSub, Int.reduceMul, Int.reduceNeg, Int.reducePow, Int.reduceEq, ↓reduceIte, Nat.reduceEqDiff, Nat.reduceAdd, Nat.reduceMul, Nat.reduceLeDiff, Nat.reduceSub, Nat.reduceLT, Int.reduceToNat, Int.reduceLT, Int.reduceLE, reduceCtorEq]
          repeat' ((first | refine FK_split (fun h_ => ?_) (fun h_ => ?_) | refine GK_split (fun h_ => ?_) (fun h_ => ?_) | refine ite_both (fun h_ => ?_) (fun h_ => ?_)) <;> (try simp only [decide_eq_true_eq, decide_eq_false_iff_not, Bool.not_true, Bool.not_false, Bool.not_eq_true', Bool.not_eq_false', Bool.not_eq_eq_eq_not, Decidable.not_not] at h_) <;> (try simp only [r18_0, r18_1, r18_2, r18_3, r18_4, r18_5, r18_6, r18_7, r18_8, r18_9, r18_10, r18_12, r18_13, r18_14, r18_15, r18_16, r18_11, r18_17, r18_18, r18_20, r18_21, r18_19, r18_22, r18_23, r18_24, r18_25, r18_26, r18_27, r18_29, r18_30, r18_28, r18_31, c18, F18, l18_0, l18_1, l18_2, q13, q0, q1, q2, q3, q11, c1, c2, c2', c3, c3', c5, c7, c8, c9, ce, hrd, hrd', n1, vl, Int.toNat_natCast, h_, go_sem, Int.reduceTMod, Int.reduceTDiv, Int.reduceDiv, Int.reduceMod, Int.reduceAdd, Int.reduceSub, Int.reduceMul, Int.reduceNeg, Int.reducePow, Int.reduceEq, ↓reduceIte, Nat.reduceEqDiff, Nat.reduceAdd, Nat.reduceMul, Nat.reduceLeDiff, Nat.reduceSub, Nat.reduceLT, Int.reduceToNat, Int.reduceLT, Int.reduceLE, reduceCtorEq]))
          refine hret (hsub ?_) _ ?_ ?_ ?_
          · rw [List.all_append]
            simp [barI, hlg]
          · simp only [go_sem, Int.reduceTMod, Int.reduceTDiv, Int.reduceDiv, Int.reduceMod, Int.reduceAdd, Int.reduceSub, Int.reduceMul, Int.reduceNeg, Int.reducePow, Int.reduceEq, ↓reduceIte, Nat.reduceEqDiff, Nat.reduceAdd, Nat.reduceMul, Nat.reduceLeDiff, Nat.reduceSub, Nat.reduceLT, Int.reduceToNat, Int.reduceLT, Int.reduceLE, reduceCtorEq]
          · simp only [go_sem, Int.reduceTMod, Int.reduceTDiv, Int.reduceDiv, Int.reduceMod, Int.reduceAdd, Int.reduceSub, Int.reduceMul, Int.reduceNeg, Int.reducePow, Int.reduceEq, ↓reduceIte, Nat.reduceEqDiff, Nat.reduceAdd, Nat.reduceMul, Nat.reduceLeDiff, Nat.reduceSub, Nat.reduceLT, Int.reduceToNat, Int.reduceLT, Int.reduceLE, reduceCtorEq]
          · simp only; omega
  · obtain ⟨e, M, N⟩ := s
    obtain ⟨q13, q0, q1, q2, q3, q11, qn, qm, hO1, hR1, hL1⟩ := hs
    simp only at q13 q0 q1 q2 q3 q11 qn qm hO1 hR1 hL1
    have c1 : ((1 : Int) < (l.length : Int)) = True := eq_true (by omega)
    have c5 : IntKind.i64.wrap ((l.length : Int) - 1) = (l.length : Int) - 1 := wr_eq (by omega) (by omega)
    cases c
    · simp only [Bool.false_eq_true, if_false] at q13 hO1 hR1 hL1
      have c2 : (((l.length - 1 : Nat) : Int) < (l.length : Int)) = True := eq_true (by omega)
      have ce : (((l.length - 1 : Nat) : Int) = (l.length : Int) - 1) = True := eq_true (by omega)
      have hba : barsAll h l false = rbarsTo h l (l.length - 1) := by
        rw [show rbarsTo h l (l.length - 1) = barsTo h l (l.length - 1) from if_pos (by omega)]
        simp [barsAll]
      try simp only [r18_0, r18_1, r18_2, r18_3, r18_4, r18_5, r18_6, r18_7, r18_8, r18_9, r18_10, r18_12, r18_13, r18_14, r18_15, r18_16, r18_11, r18_17, r18_18, r18_20, r18_21, r18_19, r18_22, r18_23, r18_24, r18_25, r18_26, r18_27, r18_29, r18_30, r18_28, r18_31, c18, F18, l18_0, l18_1, l18_2, q13, q1, q11, c1, c2, c5, ce, go_sem, Int.reduceTMod, Int.reduceTDiv, Int.reduceDiv, Int.reduceMod, Int.reduceAdd, Int.reduceSub, Int.reduceMul, Int.reduceNeg, Int.reducePow, Int.reduceEq, ↓reduceIte, Nat.reduceEqDiff, Nat.reduceAdd, Nat.reduceMul, Nat.reduceLeDiff, Nat.reduceSub, Nat.reduceLT, Int.reduceToNat, Int.reduceLT, Int.reduceLE, reduceCtorEq]
      repeat' ((first | refine FK_split (fun h_ => ?_) (fun h_ => ?_) | refine GK_split (fun h_ => ?_) (fun h_ => ?_) | refine ite_both (fun h_ => ?_) (fun h_ => ?_)) <;> (try simp only [decide_eq_true_eq, decide_eq_false_iff_not, Bool.not_true, Bool.not_false, Bool.not_eq_true', Bool.not_eq_false', Bool.not_eq_eq_eq_not, Decidable.not_not] at h_) <;> (try simp only [r18_0, r18_1, r18_2, r18_3, r18_4, r18_5, r18_6, r18_7, r18_8, r18_9, r18_10, r18_12, r18_13, r18_14, r18_15, r18_16, r18_11, r18_17, r18_18, r18_20, r18_21, r18_19, r18_22, r18_23, r18_24, r18_25, r18_26, r18_27, r18_29, r18_30, r18_28, r18_31, c18, F18, l18_0, l18_1, l18_2, q13, q1, q11, c1, c2, c5, ce, h_, go_sem, Int.reduceTMod, Int.reduceTDiv, Int.reduceDiv, Int.reduceMod, Int.reduceAdd, Int.reduceSub, Int.reduceMul, Int.reduceNeg, Int.reducePow, Int.reduceEq, ↓reduceIte, Nat.reduceEqDiff, Nat.reduceAdd, Nat.reduceMul, Nat.reduceLeDiff, Nat.reduceSub, Nat.reduceLT, Int.reduceToNat, Int.reduceLT, Int.reduceLE, reduceCtorEq]))
      refine hK _ qn qm ?_ ?_ ?_ ?_ ?_ ?_ (by rw [hba]; exact hR1) (fun k hk => hL1 k (by omega) hk)
      · simp only [q0, go_sem, Int.reduceTMod, Int.reduceTDiv, Int.reduceDiv, Int.reduceMod, Int.reduceAdd, Int.reduceSub, Int.reduceMul, Int.reduceNeg, Int.reducePow, Int.reduceEq, ↓reduceIte, Nat.reduceEqDiff, Nat.reduceAdd, Nat.reduceMul, Nat.reduceLeDiff, Nat.reduceSub, Nat.reduceLT, Int.reduceToNat, Int.reduceLT, Int.reduceLE, reduceCtorEq]
      · simp only [q1, go_sem, Int.reduceTMod, Int.reduceTDiv, Int.reduceDiv, Int.reduceMod, Int.reduceAdd, Int.reduceSub, Int.reduceMul, Int.reduceNeg, Int.reducePow, Int.reduceEq, ↓reduceIte, Nat.reduceEqDiff, Nat.reduceAdd, Nat.reduceMul, Nat.reduceLeDiff, Nat.reduceSub, Nat.reduceLT, Int.reduceToNat, Int.reduceLT, Int.reduceLE, reduceCtorEq]
      · simp only [q2, go_sem, Int.reduceTMod, Int.reduceTDiv, Int.reduceDiv, Int.reduceMod, Int.reduceAdd, Int.reduceSub, Int.reduceMul, Int.reduceNeg, Int.reducePow, Int.reduceEq, ↓reduceIte, Nat.reduceEqDiff, Nat.reduceAdd, Nat.reduceMul, Nat.reduceLeDiff, Nat.reduceSub, Nat.reduceLT, Int.reduceToNat, Int.reduceLT, Int.reduceLE, reduceCtorEq]
      · simp only [q3, go_sem, Int.reduceTMod, Int.reduceTDiv, Int.reduceDiv, Int.reduceMod, Int.reduceAdd, Int.reduceSub, Int.reduceMul, Int.reduceNeg, Int.reducePow, Int.reduceEq, ↓reduceIte, Nat.reduceEqDiff, Nat.reduceAdd, Nat.reduceMul, Nat.reduceLeDiff, Nat.reduceSub, Nat.reduceLT, Int.reduceToNat, Int.reduceLT, Int.reduceLE, reduceCtorEq]
      · simp only [q11, go_sem, Int.reduceTMod, Int.reduceTDiv, Int.reduceDiv, Int.reduceMod, Int.reduceAdd, Int.reduceSub, Int.reduceMul, Int.reduceNeg, Int.reducePow, Int.reduceEq, ↓reduceIte, Nat.reduceEqDiff, Nat.reduceAdd, Nat.reduceMul, Nat.reduceLeDiff, Nat.reduceSub, Nat.reduceLT, Int.reduceToNat, Int.reduceLT, Int.reduceLE, reduceCtorEq]
      · rw [hba]
        simp only [go_sem, Int.reduceTMod, Int.reduceTDiv, Int.reduceDiv, Int.reduceMod, Int.reduceAdd, Int.reduceSub, Int.reduceMul, Int.reduceNeg, Int.reducePow, Int.reduceEq, ↓reduceIte, Nat.reduceEqDiff, Nat.reduceAdd, Nat.reduceMul, Nat.reduceLeDiff, Nat.reduceSub, Nat.reduceLT, Int.reduceToNat, Int.reduceLT, Int.reduceLE, reduceCtorEq]
        exact hO1
    · simp only [if_true] at q13 hO1 hR1 hL1
      have c2 : ((l.length : Int) < (l.length : Int)) = False := eq_false (by omega)
      have hba : barsAll h l true = rbarsTo h l l.length := by
        rw [show rbarsTo h l l.length = barsTo h l (l.length - 1) ++ barAt h l (l.length - 1) 0 from if_neg (by omega)]
        simp [barsAll]
      try simp only [r18_0, r18_1, r18_2, r18_3, r18_4, r18_5, r18_6, r18_7, r18_8, r18_9, r18_10, r18_12, r18_13, r18_14, r18_15, r18_16, r18_11, r18_17, r18_18, r18_20, r18_21, r18_19, r18_22, r18_23, r18_24, r18_25, r18_26, r18_27, r18_29, r18_30, r18_28, r18_31, c18, F18, l18_0, l18_1, l18_2, q13, q1, q11, c1, c2, go_sem, Int.reduceTMod, Int.reduceTDiv, Int.reduceDiv, Int.reduceMod, Int.reduceAdd, Int.reduceSub, Int.reduceMul, Int.reduceNeg, Int.reducePow, Int.reduceEq, ↓reduceIte, Nat.reduceEqDiff, Nat.reduceAdd, Nat.reduceMul, Nat.reduceLeDiff, Nat.reduceSub, Nat.reduceLT, Int.reduceToNat, Int.reduceLT, Int.reduceLE, reduceCtorEq]
      repeat' ((first | refine FK_split (fun h_ => ?_) (fun h_ => ?_) | refine GK_split (fun h_ => ?_) (fun h_ => ?_) | refine ite_both (fun h_ => ?_) (fun h_ => ?_)) <;> (try simp only [decide_eq_true_eq, decide_eq_false_iff_not, Bool.not_true, Bool.not_false, Bool.not_eq_true', Bool.not_eq_false', Bool.not_eq_eq_eq_not, Decidable.not_not] at h_) <;> (try simp only [r18_0, r18_1, r18_2, r18_3, r18_4, r18_5, r18_6, r18_7, r18_8, r18_9, r18_10, r18_12, r18_13, r18_14, r18_15, r18_16, r18_11, r18_17, r18_18, r18_20, r18_21, r18_19, r18_22, r18_23, r18_24, r18_25, r18_26, r18_27, r18_29, r18_30, r18_28, r18_31, c18, F18, l18_0, l18_1, l18_2, q13, q1, q11, c1, c2, h_, go_sem, Int.reduceTMod, Int.reduceTDiv, Int.reduceDiv, Int.reduceMod, Int.reduceAdd, Int.reduceSub, Int.reduceMul, Int.reduceNeg, Int.reducePow, Int.reduceEq, ↓reduceIte, Nat.reduceEqDiff, Nat.reduceAdd, Nat.reduceMul, Nat.reduceLeDiff, Nat.reduceSub, Nat.reduceLT, Int.reduceToNat, Int.reduceLT, Int.reduceLE, reduceCtorEq]))
      refine hK _ qn qm ?_ ?_ ?_ ?_ ?_ ?_ (by rw [hba]; exact hR1) (fun k hk => hL1 k (by omega) hk)
      · simp only [q0, go_sem, Int.reduceTMod, Int.reduceTDiv, Int.reduceDiv, Int.reduceMod, Int.reduceAdd, Int.reduceSub, Int.reduceMul, Int.reduceNeg, Int.reducePow, Int.reduceEq, ↓reduceIte, Nat.reduceEqDiff, Nat.reduceAdd, Nat.reduceMul, Nat.reduceLeDiff, Nat.reduceSub, Nat.reduceLT, Int.reduceToNat, Int.reduceLT, Int.reduceLE, reduceCtorEq]
      · simp only [q1, go_sem, Int.reduceTMod, Int.reduceTDiv, Int.reduceDiv, Int.reduceMod, Int.reduceAdd, Int.reduceSub, Int.reduceMul, Int.reduceNeg, Int.reducePow, Int.reduceEq, ↓reduceIte, Nat.reduceEqDiff, Nat.reduceAdd, Nat.reduceMul, Nat.reduceLeDiff, Nat.reduceSub, Nat.reduceLT, Int.reduceToNat, Int.reduceLT, Int.reduceLE, reduceCtorEq]
      · simp only [q2, go_sem, Int.reduceTMod, Int.reduceTDiv, Int.reduceDiv, Int.reduceMod, Int.reduceAdd, Int.reduceSub, Int.reduceMul, Int.reduceNeg, Int.reducePow, Int.reduceEq, ↓reduceIte, Nat.reduceEqDiff, Nat.reduceAdd, Nat.reduceMul, Nat.reduceLeDiff, Nat.reduceSub, Nat.reduceLT, Int.reduceToNat, Int.reduceLT, Int.reduceLE, reduceCtorEq]
      · simp only [q3, go_sem, Int.reduceTMod, Int.reduceTDiv, Int.reduceDiv, Int.reduceMod, Int.reduceAdd, Int.reduceSub, Int.reduceMul, Int.reduceNeg, Int.reducePow, Int.reduceEq, ↓reduceIte, Nat.reduceEqDiff, Nat.reduceAdd, Nat.reduceMul, Nat.reduceLeDiff, Nat.reduceSub, Nat.reduceLT, Int.reduceToNat, Int.reduceLT, Int.reduceLE, reduceCtorEq]
      · simp only [q11, go_sem, Int.reduceTMod, Int.reduceTDiv, Int.reduceDiv, Int.reduceMod, Int.reduceAdd, Int.reduceSub, Int.reduceMul, Int.reduceNeg, Int.reducePow, Int.reduceEq, ↓reduceIte, Nat.reduceEqDiff, Nat.reduceAdd, Nat.reduceMul, Nat.reduceLeDiff, Nat.reduceSub, Nat.reduceLT, Int.reduceToNat, Int.reduceLT, Int.reduceLE, reduceCtorEq]
      · rw [hba]
        simp only [go_sem, Int.reduceTMod, Int.reduceTDiv, Int.reduceDiv, Int.reduceMod, Int.reduceAdd, Int.reduceSub, Int.reduceMul, Int.reduceNeg, Int.reducePow, Int.reduceEq, ↓reduceIte, Nat.reduceEqDiff, Nat.reduceAdd, Nat.reduceMul, Nat.reduceLeDiff, Nat.reduceSub, Nat.reduceLT, Int.reduceToNat, Int.reduceLT, Int.reduceLE, reduceCtorEq]
        exact hO1
  · refine ⟨e13, e0, e1, e2, e3, e11, Nat.le_refl _, fun _ _ => rfl, ?_⟩
    rw [show rbarsTo h l 0 = [] from by unfold rbarsTo; rw [if_pos (by omega)]; rfl]
    simp only [List.map_nil, e10]
    exact ⟨OPs.nil, fun x hx => (by cases hx), fun k hk => absurd hk (Nat.not_lt_zero _)⟩

/- The reference: are all polygons in room. Conditions: those that each theorem names. -/
open Go Go.Proofs
set_option linter.unusedSimpArgs false
set_option linter.unusedVariables false

/-- The polygon i of a row. -/
theorem OPs.at {p u v : Nat} {m : Mem} {n : Nat} {r : Reg} {ls : List (List Pt)} (h : OPs p u v m n r ls) {i : Nat} {l : List Pt} (hi : ls[i]? = some l) :
    ∃ id b c, r = .one (.sl id 0 ls.length none 1) ∧ id < n ∧ m id = some b ∧ b.cells[i]? = some c ∧ RPt m n (.one c) l := by
  obtain ⟨cs, h1, h0, h2, h3⟩ := h
  obtain ⟨c, k1, k2, k3⟩ := h3 i l hi
  rcases h1 with ⟨_, e⟩ | ⟨id, e1, e2, e3, e4⟩
  · rw [e] at k1; simp at k1
  · refine ⟨id, _, c, by rw [← h2]; exact e1, e3, e4, ?_, k2⟩
    rw [encC_all]
    exact k1
theorem OPs.len {p u v : Nat} {m : Mem} {n : Nat} {r : Reg} {ls : List (List Pt)} (h : OPs p u v m n r ls) : lenO r = some (ls.length : Int) := by
  obtain ⟨cs, h1, h0, h2, h3⟩ := h
  rw [← h2]
  rcases h1 with ⟨e1, e2⟩ | ⟨id, e1, _⟩
  · rw [e1, e2]; rfl
  · rw [e1]; rfl
theorem rroom_loop {K : Kt} {p : Nat} {m : Mem} {n : Nat} {ro : Reg} {ls : List (List Pt)} (hO : OPs p p p m n ro ls) (hl : ls.length < 4294967296) (hs : ∀ l ∈ ls, l.length < 4294967296) {e : Nat → Reg} (e10 : e 10 = ro) (e16 : e 16 = RI 0)
    (hret : ls.all (·.all inP) = false → ∀ s, s.e 8 = rnil → s.e 9 = RB false → s.m = m → s.n = n → KR TA K s)
    (hK : ls.all (·.all inP) = true → ∀ s, s.m = m → s.n = n → s.e 10 = ro → KX TA K 4 s) :
    XK TA (.loop l18_2) ⟨e, m, n⟩ K := by
  have hlen := hO.len
  refine XK_iter (inv := fun i s => s.e 16 = RI i ∧ s.e 10 = ro ∧ s.m = m ∧ s.n = n ∧ (ls.take i).all (·.all inP) = true) ls.length
    (fun L _ => ⟨fun i hi s hs' next => ?_, fun s hs' => ?_⟩) 0 (by omega) _ ⟨e16, e10, rfl, rfl, by simp⟩
  · obtain ⟨e, M, N⟩ := s
    obtain ⟨q16, q10, qm, qn, qa⟩ := hs'
    simp only at q16 q10 qm qn qa
    subst qm
    subst qn
    have hp : ls[i]? = some ls[i] := List.getElem?_eq_getElem hi
    obtain ⟨id, b, c, hro, hid, hb, hc, hrc⟩ := hO.at hp
    have hsl := hs ls[i] (List.getElem_mem hi)
    have c2 : ((i : Int) < (ls.length : Int)) = True := eq_true (by omega)
    have c3 : (0 ≤ (i : Int)) = True := eq_true (by omega)
    have c7 : IntKind.i64.wrap ((i : Int) + 1) = ((i + 1 : Nat) : Int) := wr_nat (by omega)
    have hsn : (ls.take (i + 1)).all (·.all inP) = ls[i].all inP := by
      rw [List.take_add_one, hp, List.all_append, qa]; simp
    have vi := v_In07 (.one c) ls[i] (frz M) N hrc.frz hsl
    rw [hro] at q10
    generalize ls[i] = u at *
    cases hin : u.all inP
    · rw [hin] at vi
      try simp only [r18_0, r18_1, r18_2, r18_3, r18_4, r18_5, r18_6, r18_7, r18_8, r18_9, r18_10, r18_12, r18_13, r18_14, r18_15, r18_16, r18_11, r18_17, r18_18, r18_20, r18_21, r18_19, r18_22, r18_23, r18_24, r18_25, r18_26, r18_27, r18_29, r18_30, r18_28, r18_31, c18, F18, l18_0, l18_1, l18_2, q16, q10, lenO, c2, c3, hb, hc, vi, Int.toNat_natCast, Nat.mul_one, Nat.zero_add, go_sem, Int.reduceTMod, Int.reduceTDiv, Int.reduceDiv, Int.reduceMod, Int.reduceAdd, Int.reduceSub, Int.reduceMul, Int.reduceNeg, Int.reducePow, Int.reduceEq, ↓reduceIte, Nat.reduceEqDiff, Nat.reduceAdd, Nat.reduceMul, Nat.reduceLeDiff, Nat.reduceSub, Nat.reduceLT, Int.reduceToNat, Int.reduceLT, Int.reduceLE, reduceCtorEq]
      repeat' ((first | refine FK_split (fun h_ => ?_) (fun h_ => ?_) | refine GK_split (fun h_ => ?_) (fun h_ => ?_) | refine ite_both (fun h_ => ?_) (fun h_ => ?_)) <;> (try simp only [decide_eq_true_eq, decide_eq_false_iff_not, Bool.not_true, Bool.not_false, Bool.not_eq_true', Bool.not_eq_false', Bool.not_eq_eq_eq_not, Decidable.not_not] at h_) <;> (try simp only [r18_0, r18_1, r18_2, r18_3, r18_4, r18_5, r18_6, r18_7, r18_8, r18_9, r18_10, r18_12, r18_13, r18_14, r18_15, r18_16, r18_11, r18_17, r18_18, r18_20, r18_21, r18_19, r18_22, r18_23, r18_24, r18_25, r18_26, r18_27, r18_29, r18_30, r18_28, r18_31, c18, F18, l18_0, l18_1, l18_2, q16, q10, lenO, c2, c3, hb, hc, vi, Int.toNat_natCast, Nat.mul_one, Nat.zero_add, h_, go_sem, Int.reduceTMod, Int.reduceTDiv, Int.reduceDiv, Int.reduceMod, Int.reduceAdd, Int.reduceSub, Int.reduceMul, Int.reduceNeg, Int.reducePow, Int.reduceEq, ↓reduceIte, Nat.reduceEqDiff, Nat.reduceAdd, Nat.reduceMul, Nat.reduceLeDiff, Nat.reduceSub, Nat.reduceLT, Int.reduceToNat, Int.reduceLT, Int.reduceLE, reduceCtorEq]))
      refine hret ?_ _ ?_ ?_ rfl rfl
      · rw [List.all_eq_false]
        exact ⟨u, List.mem_of_getElem? hp, by simp [hin]⟩
      · simp only [go_sem, Int.reduceTMod, Int.reduceTDiv, Int.reduceDiv, Int.reduceMod, Int.reduceAdd, Int.reduceSub, Int.reduceMul, Int.reduceNeg, Int.reducePow, Int.reduceEq, ↓reduceIte, Nat.reduceEqDiff, Nat.reduceAdd, Nat.reduceMul, Nat.reduceLeDiff, Nat.reduceSub, Nat.reduceLT, Int.reduceToNat, Int.reduceLT, Int.reduceLE, reduceCtorEq]
      · simp only [go_sem, Int.reduceTMod, Int.reduceTDiv, Int.reduceDiv, Int.reduceMod, Int.reduceAdd, Int.reduceSub, Int.reduceMul, Int.reduceNeg, Int.reducePow, Int.reduceEq, ↓reduceIte, Nat.reduceEqDiff, Nat.reduceAdd, Nat.reduceMul, Nat.reduceLeDiff, Nat.reduceSub, Nat.reduceLT, Int.reduceToNat, Int.reduceLT, Int.reduceLE, reduceCtorEq]
    · rw [hin] at vi
      try simp only [r18_0, r18_1, r18_2, r18_3, r18_4, r18_5, r18_6, r18_7, r18_8, r18_9, r18_10, r18_12, r18_13, r18_14, r18_15, r18_16, r18_11, r18_17, r18_18, r18_20, r18_21, r18_19, r18_22, r18_23, r18_24, r18_25, r18_26, r18_27, r18_29, r18_30, r18_28, r18_31, c18, F18, l18_0, l18_1, l18_2, q16, q10, lenO, c2, c3, c7, hb, hc, vi, Int.toNat_natCast, Nat.mul_one, Nat.zero_add, go_sem, Int.reduceTMod, Int.reduceTDiv, Int.reduceDiv, Int.reduceMod, Int.reduceAdd, Int.reduceSub, Int.reduceMul, Int.reduceNeg, Int.reducePow, Int.reduceEq, ↓reduceIte, Nat.reduceEqDiff, Nat.reduceAdd, Nat.reduceMul, Nat.reduceLeDiff, Nat.reduceSub, Nat.reduceLT, Int.reduceToNat, Int.reduceLT, Int.reduceLE, reduceCtorEq]
      repeat' ((first | refine FK_split (fun h_ => ?_) (fun h_ => ?_) | refine GK_split (fun h_ => ?_) (fun h_ => ?_) | refine ite_both (fun h_ => ?_) (fun h_ => ?_)) <;> (try simp only [decide_eq_true_eq, decide_eq_false_iff_not, Bool.not_true, Bool.not_false, Bool.not_eq_true', Bool.not_eq_false', Bool.not_eq_eq_eq_not, Decidable.not_not] at h_) <;> (try simp only [r18_0, r18_1, r18_2, r18_3, r18_4, r18_5, r18_6, r18_7, r18_8, r18_9, r18_10, r18_12, r18_13, r18_14, r18_15, r18_16, r18_11, r18_17, r18_18, r18_20, r18_21, r18_19, r18_22, r18_23, r18_24, r18_25, r18_26, r18_27, r18_29, r18_30, r18_28, r18_31, c18, F18, l18_0, l18_1, l18_2, q16, q10, lenO, c2, c3, c7, hb, hc, vi, Int.toNat_natCast, Nat.mul_one, Nat.zero_add, h_, go_sem, Int.reduceTMod, Int.reduceTDiv, Int.reduceDiv, Int.reduceMod, Int.reduceAdd, Int.reduceSub, Int.reduceMul, Int.reduceNeg, Int.reducePow, Int.reduceEq, ↓reduceIte, Nat.reduceEqDiff, Nat.reduceAdd, Nat.reduceMul, Nat.reduceLeDiff, Nat.reduceSub, Nat.reduceLT, Int.reduceToNat, Int.reduceLT, Int.reduceLE, reduceCtorEq]))
      refine next _ ⟨?_, ?_, rfl, rfl, ?_⟩
      · simp only [go_sem, Int.reduceTMod, Int.reduceTDiv, Int.reduceDiv, Int.reduceMod, Int.reduceAdd, Int.reduceSub, Int.reduceMul, Int.reduceNeg, Int.reducePow, Int.reduceEq, ↓reduceIte, Nat.reduceEqDiff, Nat.reduceAdd, Nat.reduceMul, Nat.reduceLeDiff, Nat.reduceSub, Nat.reduceLT, Int.reduceToNat, Int.reduceLT, Int.reduceLE, reduceCtorEq]
      · simp only [q10, hro, go_sem, Int.reduceTMod, Int.reduceTDiv, Int.reduceDiv, Int.reduceMod, Int.reduceAdd, Int.reduceSub, Int.reduceMul, Int.reduceNeg, Int.reducePow, Int.reduceEq, ↓reduceIte, Nat.reduceEqDiff, Nat.reduceAdd, Nat.reduceMul, Nat.reduceLeDiff, Nat.reduceSub, Nat.reduceLT, Int.reduceToNat, Int.reduceLT, Int.reduceLE, reduceCtorEq]
      · rw [hsn, hin]
  · obtain ⟨e, M, N⟩ := s
    obtain ⟨q16, q10, qm, qn, qa⟩ := hs'
    simp only at q16 q10 qm qn qa
    have c2 : ((ls.length : Int) < (ls.length : Int)) = False := eq_false (by omega)
    rw [List.take_length] at qa
    try simp only [r18_0, r18_1, r18_2, r18_3, r18_4, r18_5, r18_6, r18_7, r18_8, r18_9, r18_10, r18_12, r18_13, r18_14, r18_15, r18_16, r18_11, r18_17, r18_18, r18_20, r18_21, r18_19, r18_22, r18_23, r18_24, r18_25, r18_26, r18_27, r18_29, r18_30, r18_28, r18_31, c18, F18, l18_0, l18_1, l18_2, q16, q10, hlen, c2, go_sem, Int.reduceTMod, Int.reduceTDiv, Int.reduceDiv, Int.reduceMod, Int.reduceAdd, Int.reduceSub, Int.reduceMul, Int.reduceNeg, Int.reducePow, Int.reduceEq, ↓reduceIte, Nat.reduceEqDiff, Nat.reduceAdd, Nat.reduceMul, Nat.reduceLeDiff, Nat.reduceSub, Nat.reduceLT, Int.reduceToNat, Int.reduceLT, Int.reduceLE, reduceCtorEq]
    repeat' ((first | refine FK_split (fun h_ => ?_) (fun h_ => ?_) | refine GK_split (fun h_ => ?_) (fun h_ => ?_) | refine ite_both (fun h_ => ?_) (fun h_ => ?_)) <;> (try simp only [decide_eq_true_eq, decide_eq_false_iff_not, Bool.not_true, Bool.not_false, Bool.not_eq_true', Bool.not_eq_false', Bool.not_eq_eq_eq_not, Decidable.not_not] at h_) <;> (try simp only [r18_0, r18_1, r18_2, r18_3, r18_4, r18_5, r18_6, r18_7, r18_8, r18_9, r18_10, r18_12, r18_13, r18_14, r18_15, r18_16, r18_11, r18_17, r18_18, r18_20, r18_21, r18_19, r18_22, r18_23, r18_24, r18_25, r18_26, r18_27, r18_29, r18_30, r18_28, r18_31, c18, F18, l18_0, l18_1, l18_2, q16, q10, hlen, c2, h_, go_sem, Int.reduceTMod, Int.reduceTDiv, Int.reduceDiv, Int.reduceMod, Int.reduceAdd, Int.reduceSub, Int.reduceMul, Int.reduceNeg, Int.reducePow, Int.reduceEq, ↓reduceIte, Nat.reduceEqDiff, Nat.reduceAdd, Nat.reduceMul, Nat.reduceLeDiff, Nat.reduceSub, Nat.reduceLT, Int.reduceToNat, Int.reduceLT, Int.reduceLE, reduceCtorEq]))
    exact hK qa _ qm qn (by simp only [q10, go_sem, Int.reduceTMod, Int.reduceTDiv, Int.reduceDiv, Int.reduceMod, Int.reduceAdd, Int.reduceSub, Int.reduceMul, Int.reduceNeg, Int.reducePow, Int.reduceEq, ↓reduceIte, Nat.reduceEqDiff, Nat.reduceAdd, Nat.reduceMul, Nat.reduceLeDiff, Nat.reduceSub, Nat.reduceLT, Int.reduceToNat, Int.reduceLT, Int.reduceLE, reduceCtorEq])

/- Two polygons at once. Conditions: those that each theorem names. -/
open Go Go.Proofs
set_option linter.unusedSimpArgs false
set_option linter.unusedVariables false

theorem row_push_two {T : Nat → Option SFun} {p N by' : Nat} {M : Mem} {r0 : Reg} {ls : List (List Pt)} {x y : Cell} {l1 l2 : List Pt} {d : Option Nat} {os : List SOper} {e : Nat → Reg} {k : Kt}
    (ho : OPs p p p M N r0 ls) (hp : p < N) (hx : RPt M N (.one x) l1) (hxs : ∀ id, sid (.one x) = some id → p + 1 ≤ id ∧ sid r0 ≠ some id) (hy : RPt M N (.one y) l2) (hys : ∀ id, sid (.one y) = some id → p + 1 ≤ id ∧ sid r0 ≠ some id) (hsm : ls.length < 4294967290)
    (next : ∀ c m', OPs p p p m' (N + 2) (.one c) (ls ++ [l1] ++ [l2]) → (∀ id, id ≤ p → m' id = M id) → RK T os (putE e d (.one c)) m' (N + 2) k) :
    ThenK T d os e k (evApp (upd M N (some ⟨[x, y], true⟩)) (N + 1) 1 by' r0 (.one (.sl N 0 2 (some 2) 1))) := by
  obtain ⟨cs, ho1, ho0, ho2, ho3⟩ := ho
  have hx0 : newsOf (upd M N (some ⟨[x, y], true⟩)) 1 (.one (.sl N 0 2 (some 2) 1)) = some (2, [x, y]) := by
    simp only [newsOf, if_true]
    rw [rd_of (upd_same _ _ _)]
    simp [rdB]
  have fin : ∀ (m' : Mem), m' (N + 1) = some ⟨cs ++ [x] ++ [y], true⟩ → (∀ id, id < N → sid r0 ≠ some id → m' id = M id) → OPs p p p m' (N + 2) (.one (.sl (N + 1) 0 (cs.length + 2) none 1)) (ls ++ [l1] ++ [l2]) := fun m' hm hf => by
    have keep : ∀ (c : Cell) (l : List Pt), RPt M N (.one c) l → (∀ j, sid (.one c) = some j → p + 1 ≤ j ∧ sid r0 ≠ some j) → RPt m' (N + 2) (.one c) l ∧ ∀ j, sid (.one c) = some j → (p + 1 ≤ j ∧ j ≠ p ∧ j ≠ p) ∧ sid (.one (.sl (N + 1) 0 (cs.length + 2) none 1)) ≠ some j := fun c l h1 h2 => by
      refine ⟨h1.keep' (by omega) (fun id hid => hf id (h1.lt hid) (h2 id hid).2), fun j hj => ⟨by have := h2 j hj; omega, fun e => ?_⟩⟩
      simp only [sid, Option.some.injEq] at e
      have := h1.lt hj
      omega
    refine ⟨cs ++ [x] ++ [y], Or.inr ⟨N + 1, by simp, by omega, by omega, by rw [encC_all]; exact hm⟩, fun j hj => ?_, by simp [ho2], fun i l hi => ?_⟩
    · simp only [sid, Option.some.injEq] at hj; omega
    · rcases Nat.lt_trichotomy i ls.length with h | h | h
      · rw [List.append_assoc, List.getElem?_append_left h] at hi
        obtain ⟨c, k1, k2, k3⟩ := ho3 i l hi
        obtain ⟨k4, k5⟩ := keep c l k2 (fun j hj => ⟨(k3 j hj).1.1, (k3 j hj).2⟩)
        exact ⟨c, by rw [List.append_assoc, List.getElem?_append_left (by omega)]; exact k1, k4, k5⟩
      · subst h
        simp at hi
        subst hi
        obtain ⟨k4, k5⟩ := keep x l1 hx hxs
        exact ⟨x, by rw [List.append_assoc, List.getElem?_append_right (by omega), ho2]; simp, k4, k5⟩
      · rw [List.append_assoc, List.getElem?_append_right (by omega)] at hi
        obtain ⟨t, ht⟩ : ∃ t, i - ls.length = t + 1 := ⟨i - ls.length - 1, by omega⟩
        rw [ht] at hi
        cases t with
        | zero =>
          simp at hi
          subst hi
          obtain ⟨k4, k5⟩ := keep y l2 hy hys
          exact ⟨y, by rw [List.append_assoc, List.getElem?_append_right (by omega), ho2, ht]; simp, k4, k5⟩
        | succ t => simp at hi
  rcases ho1 with ⟨rfl, e2⟩ | ⟨id, rfl, g2, g3, g4⟩
  · subst e2
    simp only [evApp, hx0]
    rw [if_neg (by omega), if_pos (by omega)]
    refine next _ _ (fin _ (upd_same _ _ _) (fun id h1 _ => by rw [upd_ne _ _ (by omega), upd_ne _ _ (by omega)])) (fun id hid => by rw [upd_ne _ _ (by omega), upd_ne _ _ (by omega)])
  · rw [encC_all] at g4
    have h5 : upd M N (some ⟨[x, y], true⟩) id = some ⟨cs, true⟩ := by rw [upd_ne _ _ (by omega)]; exact g4
    have h6 : rd (upd M N (some ⟨[x, y], true⟩)) id 0 (cs.length * 1) = some cs := by
      rw [rd_of h5]; simp [rdB]
    simp only [evApp, hx0, if_true, h5, h6, Option.map_some, true_and, if_pos (show cs.length + 2 ≤ 4294967296 by omega)]
    refine next _ _ (fin _ (by rw [upd_same]; simp) (fun i h1 h2 => ?_)) (fun i hid => ?_)
    · rw [upd_ne _ _ (by omega), upd_ne _ _ (fun e => h2 (by rw [e]; rfl)), upd_ne _ _ (by omega)]
    · rw [upd_ne _ _ (by omega), upd_ne _ _ (by omega), upd_ne _ _ (by omega)]

end Go.Proofs.YtidpeongblkcbaaDoor.Sy
