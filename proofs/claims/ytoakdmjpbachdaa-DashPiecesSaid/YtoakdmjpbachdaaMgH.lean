import Derived.Test.YtoakdmjpbachdaaMgG
/- The reference's pieces: the points inside of a length. Conditions: those that each theorem names. -/
namespace Go.Proofs.Ytoakdmjpbachdaa.Sy
open Go Go.Proofs
set_option linter.unusedSimpArgs false
set_option linter.unusedVariables false
set_option maxRecDepth 20000
attribute [local go_sem] XK_seq XK_block XK_skip XK_exit XK_ret XK_cond XK_reg XK_dreg XK_ureg KN_seq KN_blk KN_lp KN_chk KN_chku KN_top KN_fin KX_seq KX_lp KX_blk KX_chk KX_top KR_seq KR_blk KR_lp KR_chk KR_top KR_fin FK_true FK_false RK_nil RK_mv RK_pick RK_alloc RK_box RK_build RK_bslice RK_load1 RK_loadA RK_store RK_nilchk RK_bin RK_beq RK_eqv RK_eqnil RK_un RK_conv RK_mkfn RK_mkslice RK_slS RK_slA RK_fadr RK_fld RK_iadrA RK_iadrS RK_idxA RK_ext RK_lenC RK_cap RK_app RK_cpy RK_mn RK_mx RK_len RK_carry RK_clr carryR um0 um1 ThenK_some RK_guard GK_tt GK_ff GK_tf GK_ft GK_none QK_some RK_callQ RK_callZ VK_clo RK_callV
  evalOp evO evOs upd_at unfrz_at putE_some putE_none boolOf_b boolOf_tup Option.map_some evRes pack_one pack_two pack_three pack_none List.getD_cons_zero List.getD_cons_succ getD_nil
  Option.some.injEq exists_eq_left' Reg.cs? fillC setL List.set_cons_zero List.set_cons_succ List.length_cons List.length_nil rd_upd rd_updn rdB wr List.drop_zero List.drop_succ_cons List.take_succ_cons List.take_zero List.getElem?_cons_zero List.getElem?_cons_succ
  ix Int.toNat_zero lenO_sl lenO_nil nadd na_eq na_eq' na_lt na_ee na_ll na_ne na_ne' na_tt
attribute [local go_sem] Reg.flat_one Reg.flat_agg Reg.flat_tup flats_nil flats_cons Cell.flat_sc Cell.flat_ptr List.all_cons List.all_nil disOk safeOk safeR decide_eq_true_eq decide_eq_false_iff_not
  List.map_cons List.map_nil List.cons_append List.nil_append List.append_nil evalOp.capsOf Bool.false_bne Bool.bne_false Bool.true_bne Bool.bne_true bne_self_eq_false beq_self_eq_true Bool.not_not Bool.false_and Bool.and_false Bool.true_or Bool.or_true beq_iff_eq eqCells
  Bool.true_beq Bool.false_beq Bool.not_eq_true' Bool.not_eq_eq_eq_not Bool.not_eq_false' and_false false_and frz_at idOf Option.isSome_some Bool.and_eq_true
attribute [local go_sem] wr_eq bV_add bV_sub bV_mul bV_eql bV_neq bV_lss bV_leq bV_gtr bV_geq bV_quo bV_rem bV_shr bV_shl uV_not uV_neg wrapU bits_and bits_or bits_xor IntKind.bits Nat.min_eq_left Nat.min_eq_right Nat.min_self
attribute [local go_sem] bne_iff_ne Int.cast_ofNat_Int Nat.zero_add Nat.add_zero and_self and_true true_and ne_eq not_false_eq_true not_true_eq_false decide_true decide_false Bool.false_eq_true Bool.not_true Bool.not_false Bool.true_and Bool.and_true Bool.or_false Bool.false_or Bool.and_self

/-- The registers of the reference's main loop. -/
structure RegsD (wr pr er ro : Reg) (mo al b kk en : Int) (e : Nat → Reg) : Prop where
  r0 : e 0 = wr
  r1 : e 1 = pr
  r3 : e 3 = RI mo
  r10 : e 10 = er
  r12 : e 12 = RI al
  r13 : e 13 = ro
  r14 : e 14 = RI b
  r15 : e 15 = RI kk
  r16 : e 16 = RI en
theorem mid_loop {K : Kt} {way : List Pt} (hW : WayW way) {base : Nat} {m : Mem} {n : Nat} {wr pr er ro rp : Reg} {mo al b kk en : Int} {l0 : List Pt} (hl0 : l0.length ≤ 2) (hw : RPt m n wr way) (he : RIn m n er (endsN way way.length)) (hwb : ∀ id, sid wr = some id → id < base) (heb : ∀ id, sid er = some id → id < base) (hbn : base ≤ n)
    (ho : OPt base m n rp l0) {e : Nat → Reg} (hg : RegsD wr pr er ro mo al b kk en e) (e17 : e 17 = rp) (e18 : e 18 = RI 1)
    (hK : ∀ s rp', s.e 17 = rp' → OPt base s.m s.n rp' (l0 ++ midR way b en way.length) → RegsD wr pr er ro mo al b kk en s.e → (∀ id, id < base → s.m id = m id) → n ≤ s.n → KX TA K 4 s) :
    XK TA (.loop l20_1) ⟨e, m, n⟩ K := by
  have h2 := hW.two
  have hsm := hW.sm
  have hlen := hw.len
  refine XK_iter (inv := fun j s => ∃ rp', s.e 17 = rp' ∧ OPt base s.m s.n rp' (l0 ++ midR way b en (j + 1)) ∧ s.e 18 = RI ((j + 1 : Nat) : Int) ∧ RegsD wr pr er ro mo al b kk en s.e ∧ (∀ id, id < base → s.m id = m id) ∧ n ≤ s.n) (way.length - 1)
    (fun L _ => ⟨fun j hj s hs next => ?_, fun s hs => ?_⟩) 0 (by omega) _ ⟨rp, e17, ?_, e18, hg, fun _ _ => rfl, Nat.le_refl _⟩
  · obtain ⟨e, M, N⟩ := s
    obtain ⟨rp', q17, qO, q18, qg, qm, qn⟩ := hs
    simp only at q17 qO q18 qg qm qn
    obtain ⟨g0, g1, g3, g10, g12, g13, g14, g15, g16⟩ := qg
    have hwM : RPt M N wr way := hw.keep' qn (fun id hid => qm id (hwb id hid))
    have heM : RIn M N er (endsN way way.length) := he.keep' qn (fun id hid => qm id (heb id hid))
    have hp : way[j + 1]? = some (way[j + 1]'(by omega)) := List.getElem?_eq_getElem (by omega)
    obtain ⟨wid, woff, wcap, hwr, hwid, hwa⟩ := hwM.at cs2 hp
    obtain ⟨id, off, cap, bb, hr1, hid, hbb, hcc⟩ := RL.int heM (endsN_at (show j + 1 < way.length by omega))
    rw [endsN_len] at hr1
    have hmid : midR way b en (j + 1 + 1) = midR way b en (j + 1) ++ (if 1 ≤ j + 1 ∧ (b < Dw way (j + 1) ∧ Dw way (j + 1) ≤ en) ∧ 0 < Dw way (j + 1) then [way[j + 1]'(by omega)] else []) := by
      rw [midR, hp]
      rfl
    have hml : (midR way b en (j + 1)).length ≤ j + 1 := by
      have : ∀ k, (midR way b en k).length ≤ k := by
        intro k
        induction k with
        | zero => exact Nat.le_refl _
        | succ k ih =>
          rw [midR, List.length_append]
          split
          · have : ((way[k]?).toList).length ≤ 1 := by cases way[k]? <;> simp
            omega
          · simp; omega
      exact this _
    generalize (way[j + 1]'(by omega)) = p at *
    have hDb := Dw_bd hW (j + 1) (by omega)
    generalize Dw way (j + 1) = D at *
    have g0' := g0
    have g10' := g10
    rw [hwr] at g0'
    rw [hr1] at g10'
    have c1 : (((j + 1 : Nat) : Int) < (way.length : Int)) = True := eq_true (by omega)
    have c5 : (0 ≤ ((j + 1 : Nat) : Int)) = True := eq_true (by omega)
    have c7 : IntKind.i64.wrap (((j + 1 : Nat) : Int) + 1) = ((j + 1 + 1 : Nat) : Int) := wr_nat (by omega)
    have z1 := na_0 hwid
    have skip : ¬ (1 ≤ j + 1 ∧ (b < D ∧ D ≤ en) ∧ 0 < D) → ∀ e' : Nat → Reg, e' 17 = rp' → e' 18 = RI ((j + 1 + 1 : Nat) : Int) → RegsD wr pr er ro mo al b kk en e' → XK TA (.loop L) ⟨e', M, N⟩ K := fun hno e' h17 h18 hg' => by
      refine next _ ⟨rp', h17, ?_, h18, hg', qm, qn⟩
      rw [hmid, if_neg hno, List.append_nil]
      exact qO
    by_cases a1 : b < D
    · by_cases a2 : D ≤ en
      · by_cases a3 : 0 < D
        · rw [if_pos ⟨by omega, ⟨a1, a2⟩, a3⟩] at hmid
          try simp only [r20_0, r20_1, r20_2, r20_3, r20_5, r20_4, r20_6, r20_7, r20_8, r20_9, r20_10, r20_12, r20_13, r20_14, r20_15, r20_16, r20_17, r20_18, r20_19, r20_21, r20_22, r20_20, r20_23, r20_24, r20_25, r20_26, r20_27, r20_28, r20_11, r20_29, c20, F20, l20_0, l20_1, l20_2, q17, q18, g0', g10', g14, g16, c1, c5, a1, a2, a3, hbb, hcc, hwa, z1, lenO, Int.toNat_natCast, Nat.mul_one, go_sem, Int.reduceTMod, Int.reduceTDiv, Int.reduceDiv, Int.reduceMod, Int.reduceAdd, Int.reduceSub, Int.reduceMul, Int.reduceNeg, Int.reducePow, Int.reduceEq, ↓reduceIte, Nat.reduceEqDiff, Nat.reduceAdd, Nat.reduceMul, Nat.reduceLeDiff, Nat.reduceSub, Nat.reduceLT, Int.reduceToNat, Int.reduceLT, Int.reduceLE, reduceCtorEq]
          repeat' ((first | refine FK_split (fun h_ => ?_) (fun h_ => ?_) | refine GK_split (fun h_ => ?_) (fun h_ => ?_) | refine ite_both (fun h_ => ?_) (fun h_ => ?_)) <;> (try simp only [decide_eq_true_eq, decide_eq_false_iff_not, Bool.not_true, Bool.not_false, Bool.not_eq_true', Bool.not_eq_false', Bool.not_eq_eq_eq_not, Decidable.not_not] at h_) <;> (try simp only [r20_0, r20_1, r20_2, r20_3, r20_5, r20_4, r20_6, r20_7, r20_8, r20_9, r20_10, r20_12, r20_13, r20_14, r20_15, r20_16, r20_17, r20_18, r20_19, r20_21, r20_22, r20_20, r20_23, r20_24, r20_25, r20_26, r20_27, r20_28, r20_11, r20_29, c20, F20, l20_0, l20_1, l20_2, q17, q18, g0', g10', g14, g16, c1, c5, a1, a2, a3, hbb, hcc, hwa, z1, lenO, Int.toNat_natCast, Nat.mul_one, h_, go_sem, Int.reduceTMod, Int.reduceTDiv, Int.reduceDiv, Int.reduceMod, Int.reduceAdd, Int.reduceSub, Int.reduceMul, Int.reduceNeg, Int.reducePow, Int.reduceEq, ↓reduceIte, Nat.reduceEqDiff, Nat.reduceAdd, Nat.reduceMul, Nat.reduceLeDiff, Nat.reduceSub, Nat.reduceLT, Int.reduceToNat, Int.reduceLT, Int.reduceLE, reduceCtorEq]))
          refine K_push cs2 (by decide) (p := p) (o := true) qO (by omega) (fun id q1 q2 => upd_ne _ _ (by omega)) (upd_same _ _ _) (by rw [List.length_append]; omega) (by omega) ?_
          intro r' m' hO' hf1 hf2
          try simp only [r20_0, r20_1, r20_2, r20_3, r20_5, r20_4, r20_6, r20_7, r20_8, r20_9, r20_10, r20_12, r20_13, r20_14, r20_15, r20_16, r20_17, r20_18, r20_19, r20_21, r20_22, r20_20, r20_23, r20_24, r20_25, r20_26, r20_27, r20_28, r20_11, r20_29, c20, F20, q18, c7, go_sem, Int.reduceTMod, Int.reduceTDiv, Int.reduceDiv, Int.reduceMod, Int.reduceAdd, Int.reduceSub, Int.reduceMul, Int.reduceNeg, Int.reducePow, Int.reduceEq, ↓reduceIte, Nat.reduceEqDiff, Nat.reduceAdd, Nat.reduceMul, Nat.reduceLeDiff, Nat.reduceSub, Nat.reduceLT, Int.reduceToNat, Int.reduceLT, Int.reduceLE, reduceCtorEq]
          repeat' ((first | refine FK_split (fun h_ => ?_) (fun h_ => ?_) | refine GK_split (fun h_ => ?_) (fun h_ => ?_) | refine ite_both (fun h_ => ?_) (fun h_ => ?_)) <;> (try simp only [decide_eq_true_eq, decide_eq_false_iff_not, Bool.not_true, Bool.not_false, Bool.not_eq_true', Bool.not_eq_false', Bool.not_eq_eq_eq_not, Decidable.not_not] at h_) <;> (try simp only [r20_0, r20_1, r20_2, r20_3, r20_5, r20_4, r20_6, r20_7, r20_8, r20_9, r20_10, r20_12, r20_13, r20_14, r20_15, r20_16, r20_17, r20_18, r20_19, r20_21, r20_22, r20_20, r20_23, r20_24, r20_25, r20_26, r20_27, r20_28, r20_11, r20_29, c20, F20, q18, c7, h_, go_sem, Int.reduceTMod, Int.reduceTDiv, Int.reduceDiv, Int.reduceMod, Int.reduceAdd, Int.reduceSub, Int.reduceMul, Int.reduceNeg, Int.reducePow, Int.reduceEq, ↓reduceIte, Nat.reduceEqDiff, Nat.reduceAdd, Nat.reduceMul, Nat.reduceLeDiff, Nat.reduceSub, Nat.reduceLT, Int.reduceToNat, Int.reduceLT, Int.reduceLE, reduceCtorEq]))
          refine next _ ⟨r', ?_, ?_, ?_, ⟨?_, ?_, ?_, ?_, ?_, ?_, ?_, ?_, ?_⟩, fun id hid => ?_, ?_⟩
          · simp only [go_sem, Int.reduceTMod, Int.reduceTDiv, Int.reduceDiv, Int.reduceMod, Int.reduceAdd, Int.reduceSub, Int.reduceMul, Int.reduceNeg, Int.reducePow, Int.reduceEq, ↓reduceIte, Nat.reduceEqDiff, Nat.reduceAdd, Nat.reduceMul, Nat.reduceLeDiff, Nat.reduceSub, Nat.reduceLT, Int.reduceToNat, Int.reduceLT, Int.reduceLE, reduceCtorEq]
          · rw [hmid, ← List.append_assoc]
            exact hO'
          · simp only [go_sem, Int.reduceTMod, Int.reduceTDiv, Int.reduceDiv, Int.reduceMod, Int.reduceAdd, Int.reduceSub, Int.reduceMul, Int.reduceNeg, Int.reducePow, Int.reduceEq, ↓reduceIte, Nat.reduceEqDiff, Nat.reduceAdd, Nat.reduceMul, Nat.reduceLeDiff, Nat.reduceSub, Nat.reduceLT, Int.reduceToNat, Int.reduceLT, Int.reduceLE, reduceCtorEq]
          · simp only [g0, go_sem, Int.reduceTMod, Int.reduceTDiv, Int.reduceDiv, Int.reduceMod, Int.reduceAdd, Int.reduceSub, Int.reduceMul, Int.reduceNeg, Int.reducePow, Int.reduceEq, ↓reduceIte, Nat.reduceEqDiff, Nat.reduceAdd, Nat.reduceMul, Nat.reduceLeDiff, Nat.reduceSub, Nat.reduceLT, Int.reduceToNat, Int.reduceLT, Int.reduceLE, reduceCtorEq]
          · simp only [g1, go_sem, Int.reduceTMod, Int.reduceTDiv, Int.reduceDiv, Int.reduceMod, Int.reduceAdd, Int.reduceSub, Int.reduceMul, Int.reduceNeg, Int.reducePow, Int.reduceEq, ↓reduceIte, Nat.reduceEqDiff, Nat.reduceAdd, Nat.reduceMul, Nat.reduceLeDiff, Nat.reduceSub, Nat.reduceLT, Int.reduceToNat, Int.reduceLT, Int.reduceLE, reduceCtorEq]
          · simp only [g3, go_sem, Int.reduceTMod, Int.reduceTDiv, Int.reduceDiv, Int.reduceMod, Int.reduceAdd, Int.reduceSub, Int.reduceMul, Int.reduceNeg, Int.reducePow, Int.reduceEq, ↓reduceIte, Nat.reduceEqDiff, Nat.reduceAdd, Nat.reduceMul, Nat.reduceLeDiff, Nat.reduceSub, Nat.reduceLT, Int.reduceToNat, Int.reduceLT, Int.reduceLE, reduceCtorEq]
          · simp only [g10, go_sem, Int.reduceTMod, Int.reduceTDiv, Int.reduceDiv, Int.reduceMod, Int.reduceAdd, Int.reduceSub, Int.reduceMul, Int.reduceNeg, Int.reducePow, Int.reduceEq, ↓reduceIte, Nat.reduceEqDiff, Nat.reduceAdd, Nat.reduceMul, Nat.reduceLeDiff, Nat.reduceSub, Nat.reduceLT, Int.reduceToNat, Int.reduceLT, Int.reduceLE, reduceCtorEq]
          · simp only [g12, go_sem, Int.reduceTMod, Int.reduceTDiv, Int.reduceDiv, Int.reduceMod, Int.reduceAdd, Int.reduceSub, Int.reduceMul, Int.reduceNeg, Int.reducePow, Int.reduceEq, ↓reduceIte, Nat.reduceEqDiff, Nat.reduceAdd, Nat.reduceMul, Nat.reduceLeDiff, Nat.reduceSub, Nat.reduceLT, Int.reduceToNat, Int.reduceLT, Int.reduceLE, reduceCtorEq]
          · simp only [g13, go_sem, Int.reduceTMod, Int.reduceTDiv, Int.reduceDiv, Int.reduceMod, Int.reduceAdd, Int.reduceSub, Int.reduceMul, Int.reduceNeg, Int.reducePow, Int.reduceEq, ↓reduceIte, Nat.reduceEqDiff, Nat.reduceAdd, Nat.reduceMul, Nat.reduceLeDiff, Nat.reduceSub, Nat.reduceLT, Int.reduceToNat, Int.reduceLT, Int.reduceLE, reduceCtorEq]
          · simp only [g14, go_sem, Int.reduceTMod, Int.reduceTDiv, Int.reduceDiv, Int.reduceMod, Int.reduceAdd, Int.reduceSub, Int.reduceMul, Int.reduceNeg, Int.reducePow, Int.reduceEq, ↓reduceIte, Nat.reduceEqDiff, Nat.reduceAdd, Nat.reduceMul, Nat.reduceLeDiff, Nat.reduceSub, Nat.reduceLT, Int.reduceToNat, Int.reduceLT, Int.reduceLE, reduceCtorEq]
          · simp only [g15, go_sem, Int.reduceTMod, Int.reduceTDiv, Int.reduceDiv, Int.reduceMod, Int.reduceAdd, Int.reduceSub, Int.reduceMul, Int.reduceNeg, Int.reducePow, Int.reduceEq, ↓reduceIte, Nat.reduceEqDiff, Nat.reduceAdd, Nat.reduceMul, Nat.reduceLeDiff, Nat.reduceSub, Nat.reduceLT, Int.reduceToNat, Int.reduceLT, Int.reduceLE, reduceCtorEq]
          · simp only [g16, go_sem, Int.reduceTMod, Int.reduceTDiv, Int.reduceDiv, Int.reduceMod, Int.reduceAdd, Int.reduceSub, Int.reduceMul, Int.reduceNeg, Int.reducePow, Int.reduceEq, ↓reduceIte, Nat.reduceEqDiff, Nat.reduceAdd, Nat.reduceMul, Nat.reduceLeDiff, Nat.reduceSub, Nat.reduceLT, Int.reduceToNat, Int.reduceLT, Int.reduceLE, reduceCtorEq]
          · simp only
            rw [hf1 id hid, upd_ne _ _ (by omega)]
            exact qm id hid
          · simp only
            omega
        · skip
          try simp only [r20_0, r20_1, r20_2, r20_3, r20_5, r20_4, r20_6, r20_7, r20_8, r20_9, r20_10, r20_12, r20_13, r20_14, r20_15, r20_16, r20_17, r20_18, r20_19, r20_21, r20_22, r20_20, r20_23, r20_24, r20_25, r20_26, r20_27, r20_28, r20_11, r20_29, c20, F20, l20_0, l20_1, l20_2, q18, g0', g10', g14, g16, c1, c5, c7, a1, a2, a3, hbb, hcc, lenO, Int.toNat_natCast, Nat.mul_one, go_sem, Int.reduceTMod, Int.reduceTDiv, Int.reduceDiv, Int.reduceMod, Int.reduceAdd, Int.reduceSub, Int.reduceMul, Int.reduceNeg, Int.reducePow, Int.reduceEq, ↓reduceIte, Nat.reduceEqDiff, Nat.reduceAdd, Nat.reduceMul, Nat.reduceLeDiff, Nat.reduceSub, Nat.reduceLT, Int.reduceToNat, Int.reduceLT, Int.reduceLE, reduceCtorEq]
          repeat' ((first | refine FK_split (fun h_ => ?_) (fun h_ => ?_) | refine GK_split (fun h_ => ?_) (fun h_ => ?_) | refine ite_both (fun h_ => ?_) (fun h_ => ?_)) <;> (try simp only [decide_eq_true_eq, decide_eq_false_iff_not, Bool.not_true, Bool.not_false, Bool.not_eq_true', Bool.not_eq_false', Bool.not_eq_eq_eq_not, Decidable.not_not] at h_) <;> (try simp only [r20_0, r20_1, r20_2, r20_3, r20_5, r20_4, r20_6, r20_7, r20_8, r20_9, r20_10, r20_12, r20_13, r20_14, r20_15, r20_16, r20_17, r20_18, r20_19, r20_21, r20_22, r20_20, r20_23, r20_24, r20_25, r20_26, r20_27, r20_28, r20_11, r20_29, c20, F20, l20_0, l20_1, l20_2, q18, g0', g10', g14, g16, c1, c5, c7, a1, a2, a3, hbb, hcc, lenO, Int.toNat_natCast, Nat.mul_one, h_, go_sem, Int.reduceTMod, Int.reduceTDiv, Int.reduceDiv, Int.reduceMod, Int.reduceAdd, Int.reduceSub, Int.reduceMul, Int.reduceNeg, Int.reducePow, Int.reduceEq, ↓reduceIte, Nat.reduceEqDiff, Nat.reduceAdd, Nat.reduceMul, Nat.reduceLeDiff, Nat.reduceSub, Nat.reduceLT, Int.reduceToNat, Int.reduceLT, Int.reduceLE, reduceCtorEq]))
          refine skip (fun h => a3 h.2.2) _ ?_ ?_ ⟨?_, ?_, ?_, ?_, ?_, ?_, ?_, ?_, ?_⟩
          · simp only [q17, go_sem, Int.reduceTMod, Int.reduceTDiv, Int.reduceDiv, Int.reduceMod, Int.reduceAdd, Int.reduceSub, Int.reduceMul, Int.reduceNeg, Int.reducePow, Int.reduceEq, ↓reduceIte, Nat.reduceEqDiff, Nat.reduceAdd, Nat.reduceMul, Nat.reduceLeDiff, Nat.reduceSub, Nat.reduceLT, Int.reduceToNat, Int.reduceLT, Int.reduceLE, reduceCtorEq]
          · simp only [go_sem, Int.reduceTMod, Int.reduceTDiv, Int.reduceDiv, Int.reduceMod, Int.reduceAdd, Int.reduceSub, Int.reduceMul, Int.reduceNeg, Int.reducePow, Int.reduceEq, ↓reduceIte, Nat.reduceEqDiff, Nat.reduceAdd, Nat.reduceMul, Nat.reduceLeDiff, Nat.reduceSub, Nat.reduceLT, Int.reduceToNat, Int.reduceLT, Int.reduceLE, reduceCtorEq]
          · simp only [g0, go_sem, Int.reduceTMod, Int.reduceTDiv, Int.reduceDiv, Int.reduceMod, Int.reduceAdd, Int.reduceSub, Int.reduceMul, Int.reduceNeg, Int.reducePow, Int.reduceEq, ↓reduceIte, Nat.reduceEqDiff, Nat.reduceAdd, Nat.reduceMul, Nat.reduceLeDiff, Nat.reduceSub, Nat.reduceLT, Int.reduceToNat, Int.reduceLT, Int.reduceLE, reduceCtorEq]
          · simp only [g1, go_sem, Int.reduceTMod, Int.reduceTDiv, Int.reduceDiv, Int.reduceMod, Int.reduceAdd, Int.reduceSub, Int.reduceMul, Int.reduceNeg, Int.reducePow, Int.reduceEq, ↓reduceIte, Nat.reduceEqDiff, Nat.reduceAdd, Nat.reduceMul, Nat.reduceLeDiff, Nat.reduceSub, Nat.reduceLT, Int.reduceToNat, Int.reduceLT, Int.reduceLE, reduceCtorEq]
          · simp only [g3, go_sem, Int.reduceTMod, Int.reduceTDiv, Int.reduceDiv, Int.reduceMod, Int.reduceAdd, Int.reduceSub, Int.reduceMul, Int.reduceNeg, Int.reducePow, Int.reduceEq, ↓reduceIte, Nat.reduceEqDiff, Nat.reduceAdd, Nat.reduceMul, Nat.reduceLeDiff, Nat.reduceSub, Nat.reduceLT, Int.reduceToNat, Int.reduceLT, Int.reduceLE, reduceCtorEq]
          · simp only [g10, go_sem, Int.reduceTMod, Int.reduceTDiv, Int.reduceDiv, Int.reduceMod, Int.reduceAdd, Int.reduceSub, Int.reduceMul, Int.reduceNeg, Int.reducePow, Int.reduceEq, ↓reduceIte, Nat.reduceEqDiff, Nat.reduceAdd, Nat.reduceMul, Nat.reduceLeDiff, Nat.reduceSub, Nat.reduceLT, Int.reduceToNat, Int.reduceLT, Int.reduceLE, reduceCtorEq]
          · simp only [g12, go_sem, Int.reduceTMod, Int.reduceTDiv, Int.reduceDiv, Int.reduceMod, Int.reduceAdd, Int.reduceSub, Int.reduceMul, Int.reduceNeg, Int.reducePow, Int.reduceEq, ↓reduceIte, Nat.reduceEqDiff, Nat.reduceAdd, Nat.reduceMul, Nat.reduceLeDiff, Nat.reduceSub, Nat.reduceLT, Int.reduceToNat, Int.reduceLT, Int.reduceLE, reduceCtorEq]
          · simp only [g13, go_sem, Int.reduceTMod, Int.reduceTDiv, Int.reduceDiv, Int.reduceMod, Int.reduceAdd, Int.reduceSub, Int.reduceMul, Int.reduceNeg, Int.reducePow, Int.reduceEq, ↓reduceIte, Nat.reduceEqDiff, Nat.reduceAdd, Nat.reduceMul, Nat.reduceLeDiff, Nat.reduceSub, Nat.reduceLT, Int.reduceToNat, Int.reduceLT, Int.reduceLE, reduceCtorEq]
          · simp only [g14, go_sem, Int.reduceTMod, Int.reduceTDiv, Int.reduceDiv, Int.reduceMod, Int.reduceAdd, Int.reduceSub, Int.reduceMul, Int.reduceNeg, Int.reducePow, Int.reduceEq, ↓reduceIte, Nat.reduceEqDiff, Nat.reduceAdd, Nat.reduceMul, Nat.reduceLeDiff, Nat.reduceSub, Nat.reduceLT, Int.reduceToNat, Int.reduceLT, Int.reduceLE, reduceCtorEq]
          · simp only [g15, go_sem, Int.reduceTMod, Int.reduceTDiv, Int.reduceDiv, Int.reduceMod, Int.reduceAdd, Int.reduceSub, Int.reduceMul, Int.reduceNeg, Int.reducePow, Int.reduceEq, ↓reduceIte, Nat.reduceEqDiff, Nat.reduceAdd, Nat.reduceMul, Nat.reduceLeDiff, Nat.reduceSub, Nat.reduceLT, Int.reduceToNat, Int.reduceLT, Int.reduceLE, reduceCtorEq]
          · simp only [g16, go_sem, Int.reduceTMod, Int.reduceTDiv, Int.reduceDiv, Int.reduceMod, Int.reduceAdd, Int.reduceSub, Int.reduceMul, Int.reduceNeg, Int.reducePow, Int.reduceEq, ↓reduceIte, Nat.reduceEqDiff, Nat.reduceAdd, Nat.reduceMul, Nat.reduceLeDiff, Nat.reduceSub, Nat.reduceLT, Int.reduceToNat, Int.reduceLT, Int.reduceLE, reduceCtorEq]
      · skip
        try simp only [r20_0, r20_1, r20_2, r20_3, r20_5, r20_4, r20_6, r20_7, r20_8, r20_9, r20_10, r20_12, r20_13, r20_14, r20_15, r20_16, r20_17, r20_18, r20_19, r20_21, r20_22, r20_20, r20_23, r20_24, r20_25, r20_26, r20_27, r20_28, r20_11, r20_29, c20, F20, l20_0, l20_1, l20_2, q18, g0', g10', g14, g16, c1, c5, c7, a1, a2, hbb, hcc, lenO, Int.toNat_natCast, Nat.mul_one, go_sem, Int.reduceTMod, Int.reduceTDiv, Int.reduceDiv, Int.reduceMod, Int.reduceAdd, Int.reduceSub, Int.reduceMul, Int.reduceNeg, Int.reducePow, Int.reduceEq, ↓reduceIte, Nat.reduceEqDiff, Nat.reduceAdd, Nat.reduceMul, Nat.reduceLeDiff, Nat.reduceSub, Nat.reduceLT, Int.reduceToNat, Int.reduceLT, Int.reduceLE, reduceCtorEq]
        repeat' ((first | refine FK_split (fun h_ => ?_) (fun h_ => ?_) | refine GK_split (fun h_ => ?_) (fun h_ => ?_) | refine ite_both (fun h_ => ?_) (fun h_ => ?_)) <;> (try simp only [decide_eq_true_eq, decide_eq_false_iff_not, Bool.not_true, Bool.not_false, Bool.not_eq_true', Bool.not_eq_false', Bool.not_eq_eq_eq_not, Decidable.not_not] at h_) <;> (try simp only [r20_0, r20_1, r20_2, r20_3, r20_5, r20_4, r20_6, r20_7, r20_8, r20_9, r20_10, r20_12, r20_13, r20_14, r20_15, r20_16, r20_17, r20_18, r20_19, r20_21, r20_22, r20_20, r20_23, r20_24, r20_25, r20_26, r20_27, r20_28, r20_11, r20_29, c20, F20, l20_0, l20_1, l20_2, q18, g0', g10', g14, g16, c1, c5, c7, a1, a2, hbb, hcc, lenO, Int.toNat_natCast, Nat.mul_one, h_, go_sem, Int.reduceTMod, Int.reduceTDiv, Int.reduceDiv, Int.reduceMod, Int.reduceAdd, Int.reduceSub, Int.reduceMul, Int.reduceNeg, Int.reducePow, Int.reduceEq, ↓reduceIte, Nat.reduceEqDiff, Nat.reduceAdd, Nat.reduceMul, Nat.reduceLeDiff, Nat.reduceSub, Nat.reduceLT, Int.reduceToNat, Int.reduceLT, Int.reduceLE, reduceCtorEq]))
        refine skip (fun h => a2 h.2.1.2) _ ?_ ?_ ⟨?_, ?_, ?_, ?_, ?_, ?_, ?_, ?_, ?_⟩
        · simp only [q17, go_sem, Int.reduceTMod, Int.reduceTDiv, Int.reduceDiv, Int.reduceMod, Int.reduceAdd, Int.reduceSub, Int.reduceMul, Int.reduceNeg, Int.reducePow, Int.reduceEq, ↓reduceIte, Nat.reduceEqDiff, Nat.reduceAdd, Nat.reduceMul, Nat.reduceLeDiff, Nat.reduceSub, Nat.reduceLT, Int.reduceToNat, Int.reduceLT, Int.reduceLE, reduceCtorEq]
        · simp only [go_sem, Int.reduceTMod, Int.reduceTDiv, Int.reduceDiv, Int.reduceMod, Int.reduceAdd, Int.reduceSub, Int.reduceMul, Int.reduceNeg, Int.reducePow, Int.reduceEq, ↓reduceIte, Nat.reduceEqDiff, Nat.reduceAdd, Nat.reduceMul, Nat.reduceLeDiff, Nat.reduceSub, Nat.reduceLT, Int.reduceToNat, Int.reduceLT, Int.reduceLE, reduceCtorEq]
        · simp only [g0, go_sem, Int.reduceTMod, Int.reduceTDiv, Int.reduceDiv, Int.reduceMod, Int.reduceAdd, Int.reduceSub, Int.reduceMul, Int.reduceNeg, Int.reducePow, Int.reduceEq, ↓reduceIte, Nat.reduceEqDiff, Nat.reduceAdd, Nat.reduceMul, Nat.reduceLeDiff, Nat.reduceSub, Nat.reduceLT, Int.reduceToNat, Int.reduceLT, Int.reduceLE, reduceCtorEq]
        · simp only [g1, go_sem, Int.reduceTMod, Int.reduceTDiv, Int.reduceDiv, Int.reduceMod, Int.reduceAdd, Int.reduceSub, Int.reduceMul, Int.reduceNeg, Int.reducePow, Int.reduceEq, ↓reduceIte, Nat.reduceEqDiff, Nat.reduceAdd, Nat.reduceMul, Nat.reduceLeDiff, Nat.reduceSub, Nat.reduceLT, Int.reduceToNat, Int.reduceLT, Int.reduceLE, reduceCtorEq]
        · simp only [g3, go_sem, Int.reduceTMod, Int.reduceTDiv, Int.reduceDiv, Int.reduceMod, Int.reduceAdd, Int.reduceSub, Int.reduceMul, Int.reduceNeg, Int.reducePow, Int.reduceEq, ↓reduceIte, Nat.reduceEqDiff, Nat.reduceAdd, Nat.reduceMul, Nat.reduceLeDiff, Nat.reduceSub, Nat.reduceLT, Int.reduceToNat, Int.reduceLT, Int.reduceLE, reduceCtorEq]
        · simp only [g10, go_sem, Int.reduceTMod, Int.reduceTDiv, Int.reduceDiv, Int.reduceMod, Int.reduceAdd, Int.reduceSub, Int.reduceMul, Int.reduceNeg, Int.reducePow, Int.reduceEq, ↓reduceIte, Nat.reduceEqDiff, Nat.reduceAdd, Nat.reduceMul, Nat.reduceLeDiff, Nat.reduceSub, Nat.reduceLT, Int.reduceToNat, Int.reduceLT, Int.reduceLE, reduceCtorEq]
        · simp only [g12, go_sem, Int.reduceTMod, Int.reduceTDiv, Int.reduceDiv, Int.reduceMod, Int.reduceAdd, Int.reduceSub, Int.reduceMul, Int.reduceNeg, Int.reducePow, Int.reduceEq, ↓reduceIte, Nat.reduceEqDiff, Nat.reduceAdd, Nat.reduceMul, Nat.reduceLeDiff, Nat.reduceSub, Nat.reduceLT, Int.reduceToNat, Int.reduceLT, Int.reduceLE, reduceCtorEq]
        · simp only [g13, go_sem, Int.reduceTMod, Int.reduceTDiv, Int.reduceDiv, Int.reduceMod, Int.reduceAdd, Int.reduceSub, Int.reduceMul, Int.reduceNeg, Int.reducePow, Int.reduceEq, ↓reduceIte, Nat.reduceEqDiff, Nat.reduceAdd, Nat.reduceMul, Nat.reduceLeDiff, Nat.reduceSub, Nat.reduceLT, Int.reduceToNat, Int.reduceLT, Int.reduceLE, reduceCtorEq]
        · simp only [g14, go_sem, Int.reduceTMod, Int.reduceTDiv, Int.reduceDiv, Int.reduceMod, Int.reduceAdd, Int.reduceSub, Int.reduceMul, Int.reduceNeg, Int.reducePow, Int.reduceEq, ↓reduceIte, Nat.reduceEqDiff, Nat.reduceAdd, Nat.reduceMul, Nat.reduceLeDiff, Nat.reduceSub, Nat.reduceLT, Int.reduceToNat, Int.reduceLT, Int.reduceLE, reduceCtorEq]
        · simp only [g15, go_sem, Int.reduceTMod, Int.reduceTDiv, Int.reduceDiv, Int.reduceMod, Int.reduceAdd, Int.reduceSub, Int.reduceMul, Int.reduceNeg, Int.reducePow, Int.reduceEq, ↓reduceIte, Nat.reduceEqDiff, Nat.reduceAdd, Nat.reduceMul, Nat.reduceLeDiff, Nat.reduceSub, Nat.reduceLT, Int.reduceToNat, Int.reduceLT, Int.reduceLE, reduceCtorEq]
        · simp only [g16, go_sem, Int.reduceTMod, Int.reduceTDiv, Int.reduceDiv, Int.reduceMod, Int.reduceAdd, Int.reduceSub, Int.reduceMul, Int.reduceNeg, Int.reducePow, Int.reduceEq, ↓reduceIte, Nat.reduceEqDiff, Nat.reduceAdd, Nat.reduceMul, Nat.reduceLeDiff, Nat.reduceSub, Nat.reduceLT, Int.reduceToNat, Int.reduceLT, Int.reduceLE, reduceCtorEq]
    · skip
      try simp only [r20_0, r20_1, r20_2, r20_3, r20_5, r20_4, r20_6, r20_7, r20_8, r20_9, r20_10, r20_12, r20_13, r20_14, r20_15, r20_16, r20_17, r20_18, r20_19, r20_21, r20_22, r20_20, r20_23, r20_24, r20_25, r20_26, r20_27, r20_28, r20_11, r20_29, c20, F20, l20_0, l20_1, l20_2, q18, g0', g10', g14, g16, c1, c5, c7, a1, hbb, hcc, lenO, Int.toNat_natCast, Nat.mul_one, go_sem, Int.reduceTMod, Int.reduceTDiv, Int.reduceDiv, Int.reduceMod, Int.reduceAdd, Int.reduceSub, Int.reduceMul, Int.reduceNeg, Int.reducePow, Int.reduceEq, ↓reduceIte, Nat.reduceEqDiff, Nat.reduceAdd, Nat.reduceMul, Nat.reduceLeDiff, Nat.reduceSub, Nat.reduceLT, Int.reduceToNat, Int.reduceLT, Int.reduceLE, reduceCtorEq]
      repeat' ((first | refine FK_split (fun h_ => ?_) (fun h_ => ?_) | refine GK_split (fun h_ => ?_) (fun h_ => ?_) | refine ite_both (fun h_ => ?_) (fun h_ => ?_)) <;> (try simp only [decide_eq_true_eq, decide_eq_false_iff_not, Bool.not_true, Bool.not_false, Bool.not_eq_true', Bool.not_eq_false', Bool.not_eq_eq_eq_not, Decidable.not_not] at h_) <;> (try simp only [r20_0, r20_1, r20_2, r20_3, r20_5, r20_4, r20_6, r20_7, r20_8, r20_9, r20_10, r20_12, r20_13, r20_14, r20_15, r20_16, r20_17, r20_18, r20_19, r20_21, r20_22, r20_20, r20_23, r20_24, r20_25, r20_26, r20_27, r20_28, r20_11, r20_29, c20, F20, l20_0, l20_1, l20_2, q18, g0', g10', g14, g16, c1, c5, c7, a1, hbb, hcc, lenO, Int.toNat_natCast, Nat.mul_one, h_, go_sem, Int.reduceTMod, Int.reduceTDiv, Int.reduceDiv, Int.reduceMod, Int.reduceAdd, Int.reduceSub, Int.reduceMul, Int.reduceNeg, Int.reducePow, Int.reduceEq, ↓reduceIte, Nat.reduceEqDiff, Nat.reduceAdd, Nat.reduceMul, Nat.reduceLeDiff, Nat.reduceSub, Nat.reduceLT, Int.reduceToNat, Int.reduceLT, Int.reduceLE, reduceCtorEq]))
      refine skip (fun h => a1 h.2.1.1) _ ?_ ?_ ⟨?_, ?_, ?_, ?_, ?_, ?_, ?_, ?_, ?_⟩
      · simp only [q17, go_sem, Int.reduceTMod, Int.reduceTDiv, Int.reduceDiv, Int.reduceMod, Int.reduceAdd, Int.reduceSub, Int.reduceMul, Int.reduceNeg, Int.reducePow, Int.reduceEq, ↓reduceIte, Nat.reduceEqDiff, Nat.reduceAdd, Nat.reduceMul, Nat.reduceLeDiff, Nat.reduceSub, Nat.reduceLT, Int.reduceToNat, Int.reduceLT, Int.reduceLE, reduceCtorEq]
      · simp only [go_sem, Int.reduceTMod, Int.reduceTDiv, Int.reduceDiv, Int.reduceMod, Int.reduceAdd, Int.reduceSub, Int.reduceMul, Int.reduceNeg, Int.reducePow, Int.reduceEq, ↓reduceIte, Nat.reduceEqDiff, Nat.reduceAdd, Nat.reduceMul, Nat.reduceLeDiff, Nat.reduceSub, Nat.reduceLT, Int.reduceToNat, Int.reduceLT, Int.reduceLE, reduceCtorEq]
      · simp only [g0, go_sem, Int.reduceTMod, Int.reduceTDiv, Int.reduceDiv, Int.reduceMod, Int.reduceAdd, Int.reduceSub, Int.reduceMul, Int.reduceNeg, Int.reducePow, Int.reduceEq, ↓reduceIte, Nat.reduceEqDiff, Nat.reduceAdd, Nat.reduceMul, Nat.reduceLeDiff, Nat.reduceSub, Nat.reduceLT, Int.reduceToNat, Int.reduceLT, Int.reduceLE, reduceCtorEq]
      · simp only [g1, go_sem, Int.reduceTMod, Int.reduceTDiv, Int.reduceDiv, Int.reduceMod, Int.reduceAdd, Int.reduceSub, Int.reduceMul, Int.reduceNeg, Int.reducePow, Int.reduceEq, ↓reduceIte, Nat.reduceEqDiff, Nat.reduceAdd, Nat.reduceMul, Nat.reduceLeDiff, Nat.reduceSub, Nat.reduceLT, Int.reduceToNat, Int.reduceLT, Int.reduceLE, reduceCtorEq]
      · simp only [g3, go_sem, Int.reduceTMod, Int.reduceTDiv, Int.reduceDiv, Int.reduceMod, Int.reduceAdd, Int.reduceSub, Int.reduceMul, Int.reduceNeg, Int.reducePow, Int.reduceEq, ↓reduceIte, Nat.reduceEqDiff, Nat.reduceAdd, Nat.reduceMul, Nat.reduceLeDiff, Nat.reduceSub, Nat.reduceLT, Int.reduceToNat, Int.reduceLT, Int.reduceLE, reduceCtorEq]
      · simp only [g10, go_sem, Int.reduceTMod, Int.reduceTDiv, Int.reduceDiv, Int.reduceMod, Int.reduceAdd, Int.reduceSub, Int.reduceMul, Int.reduceNeg, Int.reducePow, Int.reduceEq, ↓reduceIte, Nat.reduceEqDiff, Nat.reduceAdd, Nat.reduceMul, Nat.reduceLeDiff, Nat.reduceSub, Nat.reduceLT, Int.reduceToNat, Int.reduceLT, Int.reduceLE, reduceCtorEq]
      · simp only [g12, go_sem, Int.reduceTMod, Int.reduceTDiv, Int.reduceDiv, Int.reduceMod, Int.reduceAdd, Int.reduceSub, Int.reduceMul, Int.reduceNeg, Int.reducePow, Int.reduceEq, ↓reduceIte, Nat.reduceEqDiff, Nat.reduceAdd, Nat.reduceMul, Nat.reduceLeDiff, Nat.reduceSub, Nat.reduceLT, Int.reduceToNat, Int.reduceLT, Int.reduceLE, reduceCtorEq]
      · simp only [g13, go_sem, Int.reduceTMod, Int.reduceTDiv, Int.reduceDiv, Int.reduceMod, Int.reduceAdd, Int.reduceSub, Int.reduceMul, Int.reduceNeg, Int.reducePow, Int.reduceEq, ↓reduceIte, Nat.reduceEqDiff, Nat.reduceAdd, Nat.reduceMul, Nat.reduceLeDiff, Nat.reduceSub, Nat.reduceLT, Int.reduceToNat, Int.reduceLT, Int.reduceLE, reduceCtorEq]
      · simp only [g14, go_sem, Int.reduceTMod, Int.reduceTDiv, Int.reduceDiv, Int.reduceMod, Int.reduceAdd, Int.reduceSub, Int.reduceMul, Int.reduceNeg, Int.reducePow, Int.reduceEq, ↓reduceIte, Nat.reduceEqDiff, Nat.reduceAdd, Nat.reduceMul, Nat.reduceLeDiff, Nat.reduceSub, Nat.reduceLT, Int.reduceToNat, Int.reduceLT, Int.reduceLE, reduceCtorEq]
      · simp only [g15, go_sem, Int.reduceTMod, Int.reduceTDiv, Int.reduceDiv, Int.reduceMod, Int.reduceAdd, Int.reduceSub, Int.reduceMul, Int.reduceNeg, Int.reducePow, Int.reduceEq, ↓reduceIte, Nat.reduceEqDiff, Nat.reduceAdd, Nat.reduceMul, Nat.reduceLeDiff, Nat.reduceSub, Nat.reduceLT, Int.reduceToNat, Int.reduceLT, Int.reduceLE, reduceCtorEq]
      · simp only [g16, go_sem, Int.reduceTMod, Int.reduceTDiv, Int.reduceDiv, Int.reduceMod, Int.reduceAdd, Int.reduceSub, Int.reduceMul, Int.reduceNeg, Int.reducePow, Int.reduceEq, ↓reduceIte, Nat.reduceEqDiff, Nat.reduceAdd, Nat.reduceMul, Nat.reduceLeDiff, Nat.reduceSub, Nat.reduceLT, Int.reduceToNat, Int.reduceLT, Int.reduceLE, reduceCtorEq]
  · obtain ⟨e, M, N⟩ := s
    obtain ⟨rp', q17, qO, q18, qg, qm, qn⟩ := hs
    simp only at q17 qO q18 qg qm qn
    obtain ⟨g0, g1, g3, g10, g12, g13, g14, g15, g16⟩ := qg
    have c1 : (((way.length - 1 + 1 : Nat) : Int) < (way.length : Int)) = False := eq_false (by omega)
    rw [show way.length - 1 + 1 = way.length by omega] at qO
    try simp only [r20_0, r20_1, r20_2, r20_3, r20_5, r20_4, r20_6, r20_7, r20_8, r20_9, r20_10, r20_12, r20_13, r20_14, r20_15, r20_16, r20_17, r20_18, r20_19, r20_21, r20_22, r20_20, r20_23, r20_24, r20_25, r20_26, r20_27, r20_28, r20_11, r20_29, c20, F20, l20_0, l20_1, l20_2, q18, g0, hlen, c1, go_sem, Int.reduceTMod, Int.reduceTDiv, Int.reduceDiv, Int.reduceMod, Int.reduceAdd, Int.reduceSub, Int.reduceMul, Int.reduceNeg, Int.reducePow, Int.reduceEq, ↓reduceIte, Nat.reduceEqDiff, Nat.reduceAdd, Nat.reduceMul, Nat.reduceLeDiff, Nat.reduceSub, Nat.reduceLT, Int.reduceToNat, Int.reduceLT, Int.reduceLE, reduceCtorEq]
    repeat' ((first | refine FK_split (fun h_ => ?_) (fun h_ => ?_) | refine GK_split (fun h_ => ?_) (fun h_ => ?_) | refine ite_both (fun h_ => ?_) (fun h_ => ?_)) <;> (try simp only [decide_eq_true_eq, decide_eq_false_iff_not, Bool.not_true, Bool.not_false, Bool.not_eq_true', Bool.not_eq_false', Bool.not_eq_eq_eq_not, Decidable.not_not] at h_) <;> (try simp only [r20_0, r20_1, r20_2, r20_3, r20_5, r20_4, r20_6, r20_7, r20_8, r20_9, r20_10, r20_12, r20_13, r20_14, r20_15, r20_16, r20_17, r20_18, r20_19, r20_21, r20_22, r20_20, r20_23, r20_24, r20_25, r20_26, r20_27, r20_28, r20_11, r20_29, c20, F20, l20_0, l20_1, l20_2, q18, g0, hlen, c1, h_, go_sem, Int.reduceTMod, Int.reduceTDiv, Int.reduceDiv, Int.reduceMod, Int.reduceAdd, Int.reduceSub, Int.reduceMul, Int.reduceNeg, Int.reducePow, Int.reduceEq, ↓reduceIte, Nat.reduceEqDiff, Nat.reduceAdd, Nat.reduceMul, Nat.reduceLeDiff, Nat.reduceSub, Nat.reduceLT, Int.reduceToNat, Int.reduceLT, Int.reduceLE, reduceCtorEq]))
    refine hK _ rp' ?_ qO ⟨?_, ?_, ?_, ?_, ?_, ?_, ?_, ?_, ?_⟩ qm qn
    · simp only [q17, go_sem, Int.reduceTMod, Int.reduceTDiv, Int.reduceDiv, Int.reduceMod, Int.reduceAdd, Int.reduceSub, Int.reduceMul, Int.reduceNeg, Int.reducePow, Int.reduceEq, ↓reduceIte, Nat.reduceEqDiff, Nat.reduceAdd, Nat.reduceMul, Nat.reduceLeDiff, Nat.reduceSub, Nat.reduceLT, Int.reduceToNat, Int.reduceLT, Int.reduceLE, reduceCtorEq]
    · simp only [g0, go_sem, Int.reduceTMod, Int.reduceTDiv, Int.reduceDiv, Int.reduceMod, Int.reduceAdd, Int.reduceSub, Int.reduceMul, Int.reduceNeg, Int.reducePow, Int.reduceEq, ↓reduceIte, Nat.reduceEqDiff, Nat.reduceAdd, Nat.reduceMul, Nat.reduceLeDiff, Nat.reduceSub, Nat.reduceLT, Int.reduceToNat, Int.reduceLT, Int.reduceLE, reduceCtorEq]
    · simp only [g1, go_sem, Int.reduceTMod, Int.reduceTDiv, Int.reduceDiv, Int.reduceMod, Int.reduceAdd, Int.reduceSub, Int.reduceMul, Int.reduceNeg, Int.reducePow, Int.reduceEq, ↓reduceIte, Nat.reduceEqDiff, Nat.reduceAdd, Nat.reduceMul, Nat.reduceLeDiff, Nat.reduceSub, Nat.reduceLT, Int.reduceToNat, Int.reduceLT, Int.reduceLE, reduceCtorEq]
    · simp only [g3, go_sem, Int.reduceTMod, Int.reduceTDiv, Int.reduceDiv, Int.reduceMod, Int.reduceAdd, Int.reduceSub, Int.reduceMul, Int.reduceNeg, Int.reducePow, Int.reduceEq, ↓reduceIte, Nat.reduceEqDiff, Nat.reduceAdd, Nat.reduceMul, Nat.reduceLeDiff, Nat.reduceSub, Nat.reduceLT, Int.reduceToNat, Int.reduceLT, Int.reduceLE, reduceCtorEq]
    · simp only [g10, go_sem, Int.reduceTMod, Int.reduceTDiv, Int.reduceDiv, Int.reduceMod, Int.reduceAdd, Int.reduceSub, Int.reduceMul, Int.reduceNeg, Int.reducePow, Int.reduceEq, ↓reduceIte, Nat.reduceEqDiff, Nat.reduceAdd, Nat.reduceMul, Nat.reduceLeDiff, Nat.reduceSub, Nat.reduceLT, Int.reduceToNat, Int.reduceLT, Int.reduceLE, reduceCtorEq]
    · simp only [g12, go_sem, Int.reduceTMod, Int.reduceTDiv, Int.reduceDiv, Int.reduceMod, Int.reduceAdd, Int.reduceSub, Int.reduceMul, Int.reduceNeg, Int.reducePow, Int.reduceEq, ↓reduceIte, Nat.reduceEqDiff, Nat.reduceAdd, Nat.reduceMul, Nat.reduceLeDiff, Nat.reduceSub, Nat.reduceLT, Int.reduceToNat, Int.reduceLT, Int.reduceLE, reduceCtorEq]
    · simp only [g13, go_sem, Int.reduceTMod, Int.reduceTDiv, Int.reduceDiv, Int.reduceMod, Int.reduceAdd, Int.reduceSub, Int.reduceMul, Int.reduceNeg, Int.reducePow, Int.reduceEq, ↓reduceIte, Nat.reduceEqDiff, Nat.reduceAdd, Nat.reduceMul, Nat.reduceLeDiff, Nat.reduceSub, Nat.reduceLT, Int.reduceToNat, Int.reduceLT, Int.reduceLE, reduceCtorEq]
    · simp only [g14, go_sem, Int.reduceTMod, Int.reduceTDiv, Int.reduceDiv, Int.reduceMod, Int.reduceAdd, Int.reduceSub, Int.reduceMul, Int.reduceNeg, Int.reducePow, Int.reduceEq, ↓reduceIte, Nat.reduceEqDiff, Nat.reduceAdd, Nat.reduceMul, Nat.reduceLeDiff, Nat.reduceSub, Nat.reduceLT, Int.reduceToNat, Int.reduceLT, Int.reduceLE, reduceCtorEq]
    · simp only [g15, go_sem, Int.reduceTMod, Int.reduceTDiv, Int.reduceDiv, Int.reduceMod, Int.reduceAdd, Int.reduceSub, Int.reduceMul, Int.reduceNeg, Int.reducePow, Int.reduceEq, ↓reduceIte, Nat.reduceEqDiff, Nat.reduceAdd, Nat.reduceMul, Nat.reduceLeDiff, Nat.reduceSub, Nat.reduceLT, Int.reduceToNat, Int.reduceLT, Int.reduceLE, reduceCtorEq]
    · simp only [g16, go_sem, Int.reduceTMod, Int.reduceTDiv, Int.reduceDiv, Int.reduceMod, Int.reduceAdd, Int.reduceSub, Int.reduceMul, Int.reduceNeg, Int.reducePow, Int.reduceEq, ↓reduceIte, Nat.reduceEqDiff, Nat.reduceAdd, Nat.reduceMul, Nat.reduceLeDiff, Nat.reduceSub, Nat.reduceLT, Int.reduceToNat, Int.reduceLT, Int.reduceLE, reduceCtorEq]
  · have e1 : midR way b en (0 + 1) = [] := by
      rw [midR, if_neg (by omega)]
      rfl
    rw [e1, List.append_nil]
    exact ho

/- The reference's pieces: the main loop. Conditions: those that each theorem names. -/
open Go Go.Proofs
set_option linter.unusedSimpArgs false
set_option linter.unusedVariables false

theorem take_one (l : List Pt) (h : 0 < l.length) : l.take 1 = [l[0]] := by
  cases l with
  | nil => simp at h
  | cons a t => rfl
theorem OL.one {α : Type} {enc : α → List Cell} {sz base : Nat} {m : Mem} {n : Nat} {r : Reg} {l : List α} (h : OL enc sz base m n r l) : ∃ x, r = .one x := by
  rcases h with ⟨rfl, _⟩ | ⟨id, rfl, _⟩
  · exact ⟨_, rfl⟩
  · exact ⟨_, rfl⟩
set_option maxHeartbeats 4000000 in
theorem rmain_loop {K : Kt} {way : List Pt} (hW : WayW way) {pat : List Int} (hP : PatI pat) {ph : Int} (hph : 0 ≤ ph ∧ ph ≤ 8388608) {p : Nat} {m0 : Mem} {n0 : Nat} {wr pr er : Reg} {R : Option (List (List Pt))} (hpn : p < n0)
    (hw : RPt m0 n0 wr way) (he : RIn m0 n0 er (endsN way way.length)) (hpr : RIn m0 n0 pr pat) (hwb : ∀ id, sid wr = some id → id ≤ p) (heb : ∀ id, sid er = some id → id ≤ p) (hpb : ∀ id, sid pr = some id → id ≤ p)
    (hR : refGo pat way ((allD way + ph).toNat + 1) 0 (-ph) [] = R) {e : Nat → Reg} (e0 : e 0 = wr) (e1 : e 1 = pr) (e3 : e 3 = RI 4096) (e10 : e 10 = er) (e12 : e 12 = RI (allD way)) (e13 : e 13 = rnil) (e14 : e 14 = RI (-ph)) (e15 : e 15 = RI 0)
    (hret : R = none → ∀ s, s.e 8 = rnil → s.e 9 = RB false → n0 ≤ s.n → KR TA K s)
    (hK : ∀ out ro s, R = some out → s.e 13 = ro → OPs p p p s.m s.n ro out → n0 ≤ s.n → KX TA K 2 s) :
    XK TA (.loop l20_2) ⟨e, m0, n0⟩ K := by
  have h2 := hW.two
  have hsm := hW.sm
  have hpo := hP.po
  have hple := hP.le
  have hall := Dw_bd hW (way.length - 1) (by omega)
  rw [show Dw way (way.length - 1) = allD way from rfl] at hall
  refine XK_down (inv := fun d s => ∃ (kk f : Nat) (out : List (List Pt)) (ro : Reg), d = (allD way - Bk pat ph kk).toNat ∧ d < f ∧ refGo pat way f kk (Bk pat ph kk) out = R ∧ OPs p p p s.m s.n ro out ∧ out.length ≤ 4096 ∧ (-ph ≤ Bk pat ph kk ∧ (kk : Int) ≤ Bk pat ph kk + ph) ∧
      (s.e 0 = wr ∧ s.e 1 = pr ∧ s.e 3 = RI 4096 ∧ s.e 10 = er ∧ s.e 12 = RI (allD way)) ∧ s.e 13 = ro ∧ s.e 14 = RI (Bk pat ph kk) ∧ s.e 15 = RI (kk : Int) ∧ n0 ≤ s.n ∧ (∀ id, id ≤ p → s.m id = m0 id))
    (fun L _ d s hs next => ?_) (allD way - -ph).toNat _ ⟨0, (allD way + ph).toNat + 1, [], rnil, rfl, by omega, hR, OPs.nil, by simp, ⟨Int.le_refl _, by simp [Bk]; omega⟩, ⟨e0, e1, e3, e10, e12⟩, e13, e14, e15, Nat.le_refl _, fun _ _ => rfl⟩
  obtain ⟨e, M, N⟩ := s
  obtain ⟨kk, f, out, ro, hd, hdf, hgo, hO, hol, ⟨hb0, hkk⟩, ⟨q0, q1, q3, q10, q12⟩, q13, q14, q15, qn, qm⟩ := hs
  simp only at q0 q1 q3 q10 q12 q13 q14 q15 qn qm hO
  obtain ⟨f', rfl⟩ : ∃ f', f = f' + 1 := ⟨f - 1, by omega⟩
  have hE : Bk pat ph kk + pat.getD (kk % pat.length) 0 = Bk pat ph (kk + 1) := rfl
  have hB := Bk_le hP ph kk
  have hltk : kk % pat.length < pat.length := Nat.mod_lt _ hpo
  obtain ⟨x, x0, x1, x2, x3⟩ := hP.get (k := ((kk % pat.length : Nat) : Int)) (by omega) (by omega)
  rw [Int.toNat_natCast] at x0 x1
  rw [refGo] at hgo
  by_cases g : Bk pat ph kk < allD way
  · rw [if_pos g, hE] at hgo
    rw [x1] at hE
    have hprM : RIn M N pr pat := hpr.keep' qn (fun id hid => qm id (hpb id hid))
    have hwM : RPt M N wr way := hw.keep' qn (fun id hid => qm id (hwb id hid))
    have heM : RIn M N er (endsN way way.length) := he.keep' qn (fun id hid => qm id (heb id hid))
    obtain ⟨id, off, cap, bb, hr1, hid, hbb, hcc⟩ := RL.int hprM x0
    have q1' := q1
    rw [hr1] at q1'
    have w1 : ((kk : Int)).tmod (pat.length : Int) = ((kk % pat.length : Nat) : Int) := (Int.ofNat_tmod _ _).symm
    have w2 : ((kk : Int)).tmod 2 = ((kk % 2 : Nat) : Int) := (Int.ofNat_tmod _ _).symm
    have w3 : ((pat.length : Int) = 0) = False := eq_false (by omega)
    have w4 : IntKind.i64.wrap (Bk pat ph kk + x) = Bk pat ph (kk + 1) := (wr_eq (by omega) (by omega)).trans hE
    have w5 : IntKind.i64.wrap ((kk : Int) + 1) = ((kk + 1 : Nat) : Int) := (wr_eq (by omega) (by omega)).trans (by omega)
    have d1 : (0 ≤ ((kk % pat.length : Nat) : Int)) = True := eq_true (by omega)
    have d2 : (((kk % pat.length : Nat) : Int) < (pat.length : Int)) = True := eq_true (by omega)
    have m1 : (allD way - Bk pat ph (kk + 1)).toNat < d := by omega
    have m2 : (allD way - Bk pat ph (kk + 1)).toNat < f' := by omega
    by_cases hev : kk % 2 = 0 ∧ 0 < Bk pat ph (kk + 1)
    · rw [if_pos hev] at hgo
      obtain ⟨ev1, ev2⟩ := hev
      have v1 : (((kk % 2 : Nat) : Int) = 0) = True := eq_true (by omega)
      have hpn2 : p < N := by omega
      have tailR : ∀ (e : Nat → Reg) (M' : Mem) (N' : Nat) (rp : Reg), N ≤ N' → OPt N M' N' rp (pieceR way (Bk pat ph kk) (Bk pat ph (kk + 1))) → (∀ id, id < N → M' id = M id) → RegsD wr pr er ro 4096 (allD way) (Bk pat ph kk) kk (Bk pat ph (kk + 1)) e → e 17 = rp →
          RK TA r20_25 e M' N' (Kt.seq (.seq (.reg r20_26) (.cond (.t 140) (.seq (.reg r20_27) .ret) .skip)) (Kt.seq (.reg r20_28) (Kt.blk 3 (Kt.seq (.reg r20_11) (Kt.lp L K))))) := by
        intro e M' N' rp hN' hOp hM' hg e17
        obtain ⟨g0, g1, g3, g10, g12, g13, g14, g15, g16⟩ := hg
        obtain ⟨xx, rfl⟩ := hOp.one
        have hrp : RPt M' N' (.one xx) (pieceR way (Bk pat ph kk) (Bk pat ph (kk + 1))) := hOp.rl cs2
        have hsx : ∀ id, sid (.one xx) = some id → N ≤ id := fun id hid => (hOp.sidlt hid).1
        generalize pieceR way (Bk pat ph kk) (Bk pat ph (kk + 1)) = pc at *
        have hO' : OPs p p p M' N' ro out := hO.keep hN' (fun id q1 q2 _ _ => hM' id q2)
        try simp only [r20_25, g13, e17, go_sem, Int.reduceTMod, Int.reduceTDiv, Int.reduceDiv, Int.reduceMod, Int.reduceAdd, Int.reduceSub, Int.reduceMul, Int.reduceNeg, Int.reducePow, Int.reduceEq, ↓reduceIte, Nat.reduceEqDiff, Nat.reduceAdd, Nat.reduceMul, Nat.reduceLeDiff, Nat.reduceSub, Nat.reduceLT, Int.reduceToNat, Int.reduceLT, Int.reduceLE, reduceCtorEq]
        repeat' ((first | refine FK_split (fun h_ => ?_) (fun h_ => ?_) | refine GK_split (fun h_ => ?_) (fun h_ => ?_) | refine ite_both (fun h_ => ?_) (fun h_ => ?_)) <;> (try simp only [decide_eq_true_eq, decide_eq_false_iff_not, Bool.not_true, Bool.not_false, Bool.not_eq_true', Bool.not_eq_false', Bool.not_eq_eq_eq_not, Decidable.not_not] at h_) <;> (try simp only [r20_25, g13, e17, h_, go_sem, Int.reduceTMod, Int.reduceTDiv, Int.reduceDiv, Int.reduceMod, Int.reduceAdd, Int.reduceSub, Int.reduceMul, Int.reduceNeg, Int.reducePow, Int.reduceEq, ↓reduceIte, Nat.reduceEqDiff, Nat.reduceAdd, Nat.reduceMul, Nat.reduceLeDiff, Nat.reduceSub, Nat.reduceLT, Int.reduceToNat, Int.reduceLT, Int.reduceLE, reduceCtorEq]))
        refine row_push hO' (by omega) hrp (fun id hid => ⟨by have := hsx id hid; omega, fun e => ?_⟩) (by omega) ?_
        · obtain ⟨cs, ho1, _⟩ := hO
          have := (ho1.sidlt e).2
          have := hsx id hid
          omega
        intro c m' hO2 hf2
        have hlen2 := hO2.len
        by_cases g2 : 4096 < (out ++ [pc]).length
        · rw [if_pos g2] at hgo
          have g2' : (4096 < ((out ++ [pc]).length : Int)) = True := eq_true (by omega)
          try simp only [r20_26, r20_27, hlen2, g3, g2', go_sem, Int.reduceTMod, Int.reduceTDiv, Int.reduceDiv, Int.reduceMod, Int.reduceAdd, Int.reduceSub, Int.reduceMul, Int.reduceNeg, Int.reducePow, Int.reduceEq, ↓reduceIte, Nat.reduceEqDiff, Nat.reduceAdd, Nat.reduceMul, Nat.reduceLeDiff, Nat.reduceSub, Nat.reduceLT, Int.reduceToNat, Int.reduceLT, Int.reduceLE, reduceCtorEq]
          repeat' ((first | refine FK_split (fun h_ => ?_) (fun h_ => ?_) | refine GK_split (fun h_ => ?_) (fun h_ => ?_) | refine ite_both (fun h_ => ?_) (fun h_ => ?_)) <;> (try simp only [decide_eq_true_eq, decide_eq_false_iff_not, Bool.not_true, Bool.not_false, Bool.not_eq_true', Bool.not_eq_false', Bool.not_eq_eq_eq_not, Decidable.not_not] at h_) <;> (try simp only [r20_26, r20_27, hlen2, g3, g2', h_, go_sem, Int.reduceTMod, Int.reduceTDiv, Int.reduceDiv, Int.reduceMod, Int.reduceAdd, Int.reduceSub, Int.reduceMul, Int.reduceNeg, Int.reducePow, Int.reduceEq, ↓reduceIte, Nat.reduceEqDiff, Nat.reduceAdd, Nat.reduceMul, Nat.reduceLeDiff, Nat.reduceSub, Nat.reduceLT, Int.reduceToNat, Int.reduceLT, Int.reduceLE, reduceCtorEq]))
          refine hret hgo.symm _ ?_ ?_ ?_
          · simp only [go_sem, Int.reduceTMod, Int.reduceTDiv, Int.reduceDiv, Int.reduceMod, Int.reduceAdd, Int.reduceSub, Int.reduceMul, Int.reduceNeg, Int.reducePow, Int.reduceEq, ↓reduceIte, Nat.reduceEqDiff, Nat.reduceAdd, Nat.reduceMul, Nat.reduceLeDiff, Nat.reduceSub, Nat.reduceLT, Int.reduceToNat, Int.reduceLT, Int.reduceLE, reduceCtorEq]
          · simp only [go_sem, Int.reduceTMod, Int.reduceTDiv, Int.reduceDiv, Int.reduceMod, Int.reduceAdd, Int.reduceSub, Int.reduceMul, Int.reduceNeg, Int.reducePow, Int.reduceEq, ↓reduceIte, Nat.reduceEqDiff, Nat.reduceAdd, Nat.reduceMul, Nat.reduceLeDiff, Nat.reduceSub, Nat.reduceLT, Int.reduceToNat, Int.reduceLT, Int.reduceLE, reduceCtorEq]
          · simp only
            omega
        · rw [if_neg g2] at hgo
          have g2' : (4096 < ((out ++ [pc]).length : Int)) = False := eq_false (by omega)
          try simp only [r20_26, r20_27, r20_28, r20_11, hlen2, g3, g2', g16, g15, w5, go_sem, Int.reduceTMod, Int.reduceTDiv, Int.reduceDiv, Int.reduceMod, Int.reduceAdd, Int.reduceSub, Int.reduceMul, Int.reduceNeg, Int.reducePow, Int.reduceEq, ↓reduceIte, Nat.reduceEqDiff, Nat.reduceAdd, Nat.reduceMul, Nat.reduceLeDiff, Nat.reduceSub, Nat.reduceLT, Int.reduceToNat, Int.reduceLT, Int.reduceLE, reduceCtorEq]
          repeat' ((first | refine FK_split (fun h_ => ?_) (fun h_ => ?_) | refine GK_split (fun h_ => ?_) (fun h_ => ?_) | refine ite_both (fun h_ => ?_) (fun h_ => ?_)) <;> (try simp only [decide_eq_true_eq, decide_eq_false_iff_not, Bool.not_true, Bool.not_false, Bool.not_eq_true', Bool.not_eq_false', Bool.not_eq_eq_eq_not, Decidable.not_not] at h_) <;> (try simp only [r20_26, r20_27, r20_28, r20_11, hlen2, g3, g2', g16, g15, w5, h_, go_sem, Int.reduceTMod, Int.reduceTDiv, Int.reduceDiv, Int.reduceMod, Int.reduceAdd, Int.reduceSub, Int.reduceMul, Int.reduceNeg, Int.reducePow, Int.reduceEq, ↓reduceIte, Nat.reduceEqDiff, Nat.reduceAdd, Nat.reduceMul, Nat.reduceLeDiff, Nat.reduceSub, Nat.reduceLT, Int.reduceToNat, Int.reduceLT, Int.reduceLE, reduceCtorEq]))
          refine next _ _ m1 ⟨kk + 1, f', out ++ [pc], .one c, rfl, m2, hgo, hO2, by omega, ⟨by omega, by omega⟩, ⟨?_, ?_, ?_, ?_, ?_⟩, ?_, ?_, ?_, ?_, fun id hid => ?_⟩
          · simp only [g0, go_sem, Int.reduceTMod, Int.reduceTDiv, Int.reduceDiv, Int.reduceMod, Int.reduceAdd, Int.reduceSub, Int.reduceMul, Int.reduceNeg, Int.reducePow, Int.reduceEq, ↓reduceIte, Nat.reduceEqDiff, Nat.reduceAdd, Nat.reduceMul, Nat.reduceLeDiff, Nat.reduceSub, Nat.reduceLT, Int.reduceToNat, Int.reduceLT, Int.reduceLE, reduceCtorEq]
          · simp only [g1, go_sem, Int.reduceTMod, Int.reduceTDiv, Int.reduceDiv, Int.reduceMod, Int.reduceAdd, Int.reduceSub, Int.reduceMul, Int.reduceNeg, Int.reducePow, Int.reduceEq, ↓reduceIte, Nat.reduceEqDiff, Nat.reduceAdd, Nat.reduceMul, Nat.reduceLeDiff, Nat.reduceSub, Nat.reduceLT, Int.reduceToNat, Int.reduceLT, Int.reduceLE, reduceCtorEq]
          · simp only [g3, go_sem, Int.reduceTMod, Int.reduceTDiv, Int.reduceDiv, Int.reduceMod, Int.reduceAdd, Int.reduceSub, Int.reduceMul, Int.reduceNeg, Int.reducePow, Int.reduceEq, ↓reduceIte, Nat.reduceEqDiff, Nat.reduceAdd, Nat.reduceMul, Nat.reduceLeDiff, Nat.reduceSub, Nat.reduceLT, Int.reduceToNat, Int.reduceLT, Int.reduceLE, reduceCtorEq]
          · simp only [g10, go_sem, Int.reduceTMod, Int.reduceTDiv, Int.reduceDiv, Int.reduceMod, Int.reduceAdd, Int.reduceSub, Int.reduceMul, Int.reduceNeg, Int.reducePow, Int.reduceEq, ↓reduceIte, Nat.reduceEqDiff, Nat.reduceAdd, Nat.reduceMul, Nat.reduceLeDiff, Nat.reduceSub, Nat.reduceLT, Int.reduceToNat, Int.reduceLT, Int.reduceLE, reduceCtorEq]
          · simp only [g12, go_sem, Int.reduceTMod, Int.reduceTDiv, Int.reduceDiv, Int.reduceMod, Int.reduceAdd, Int.reduceSub, Int.reduceMul, Int.reduceNeg, Int.reducePow, Int.reduceEq, ↓reduceIte, Nat.reduceEqDiff, Nat.reduceAdd, Nat.reduceMul, Nat.reduceLeDiff, Nat.reduceSub, Nat.reduceLT, Int.reduceToNat, Int.reduceLT, Int.reduceLE, reduceCtorEq]
          · simp only [go_sem, Int.reduceTMod, Int.reduceTDiv, Int.reduceDiv, Int.reduceMod, Int.reduceAdd, Int.reduceSub, Int.reduceMul, Int.reduceNeg, Int.reducePow, Int.reduceEq, ↓reduceIte, Nat.reduceEqDiff, Nat.reduceAdd, Nat.reduceMul, Nat.reduceLeDiff, Nat.reduceSub, Nat.reduceLT, Int.reduceToNat, Int.reduceLT, Int.reduceLE, reduceCtorEq]
          · simp only [go_sem, Int.reduceTMod, Int.reduceTDiv, Int.reduceDiv, Int.reduceMod, Int.reduceAdd, Int.reduceSub, Int.reduceMul, Int.reduceNeg, Int.reducePow, Int.reduceEq, ↓reduceIte, Nat.reduceEqDiff, Nat.reduceAdd, Nat.reduceMul, Nat.reduceLeDiff, Nat.reduceSub, Nat.reduceLT, Int.reduceToNat, Int.reduceLT, Int.reduceLE, reduceCtorEq]
          · simp only [go_sem, Int.reduceTMod, Int.reduceTDiv, Int.reduceDiv, Int.reduceMod, Int.reduceAdd, Int.reduceSub, Int.reduceMul, Int.reduceNeg, Int.reducePow, Int.reduceEq, ↓reduceIte, Nat.reduceEqDiff, Nat.reduceAdd, Nat.reduceMul, Nat.reduceLeDiff, Nat.reduceSub, Nat.reduceLT, Int.reduceToNat, Int.reduceLT, Int.reduceLE, reduceCtorEq]
          · simp only
            omega
          · simp only
            rw [hf2 id hid, hM' id (by omega)]
            exact qm id hid
      have tailM : ∀ (e : Nat → Reg) (M' : Mem) (N' : Nat) (rp : Reg) (l0 : List Pt), N ≤ N' → l0 = begR way (Bk pat ph kk) → l0.length ≤ 1 → OPt N M' N' rp l0 → (∀ id, id < N → M' id = M id) → RegsD wr pr er ro 4096 (allD way) (Bk pat ph kk) kk (Bk pat ph (kk + 1)) e → e 17 = rp → e 18 = RI 1 →
          XK TA (.loop l20_1) ⟨e, M', N'⟩ (Kt.blk 4 (Kt.seq (.seq (.seq (.reg r20_23) (.cond (.t 125) (.reg r20_24) .skip)) (.seq (.reg r20_25) (.seq (.reg r20_26) (.cond (.t 140) (.seq (.reg r20_27) .ret) .skip)))) (Kt.seq (.reg r20_28) (Kt.blk 3 (Kt.seq (.reg r20_11) (Kt.lp L K)))))) := by
        intro e M' N' rp l0 hN' hl0 hl1 hOp hM' hg e17 e18
        refine mid_loop hW (base := N) (by omega) (hwM.keep' hN' (fun id hid => hM' id (hwM.lt hid))) (heM.keep' hN' (fun id hid => hM' id (heM.lt hid))) (fun id hid => hwM.lt hid) (fun id hid => heM.lt hid) hN' hOp hg e17 e18 (fun s rp' s17 sO sg sm sn => ?_)
        obtain ⟨e, M2, N2⟩ := s
        simp only at s17 sO sg sm sn
        have hM2 : ∀ id, id < N → M2 id = M id := fun id hid => by rw [sm id hid]; exact hM' id hid
        have hw2 : RPt M2 N2 wr way := hwM.keep' (by omega) (fun id hid => hM2 id (hwM.lt hid))
        have he2 : RIn M2 N2 er (endsN way way.length) := heM.keep' (by omega) (fun id hid => hM2 id (heM.lt hid))
        obtain ⟨g0, g1, g3, g10, g12, g13, g14, g15, g16⟩ := sg
        have hpc : pieceR way (Bk pat ph kk) (Bk pat ph (kk + 1)) = l0 ++ midR way (Bk pat ph kk) (Bk pat ph (kk + 1)) way.length ++ (if Bk pat ph (kk + 1) < allD way then [atR way (Bk pat ph (kk + 1))] else []) := by rw [hl0]; rfl
        by_cases hen : Bk pat ph (kk + 1) < allD way
        · rw [if_pos hen] at hpc
          have va := v_rat hW (wr := wr) (er := er) (d := Bk pat ph (kk + 1)) (by omega) hen (frz M2) N2 hw2.frz he2.frz
          have hml : (midR way (Bk pat ph kk) (Bk pat ph (kk + 1)) way.length).length ≤ way.length := by
            have : ∀ k, (midR way (Bk pat ph kk) (Bk pat ph (kk + 1)) k).length ≤ k := by
              intro k
              induction k with
              | zero => exact Nat.le_refl _
              | succ k ih =>
                rw [midR, List.length_append]
                split
                · have : ((way[k]?).toList).length ≤ 1 := by cases way[k]? <;> simp
                  omega
                · simp; omega
            exact this _
          generalize atR way (Bk pat ph (kk + 1)) = aE at *
          try simp only [r20_23, r20_24, s17, g0, g10, g16, g12, hen, va, go_sem, Int.reduceTMod, Int.reduceTDiv, Int.reduceDiv, Int.reduceMod, Int.reduceAdd, Int.reduceSub, Int.reduceMul, Int.reduceNeg, Int.reducePow, Int.reduceEq, ↓reduceIte, Nat.reduceEqDiff, Nat.reduceAdd, Nat.reduceMul, Nat.reduceLeDiff, Nat.reduceSub, Nat.reduceLT, Int.reduceToNat, Int.reduceLT, Int.reduceLE, reduceCtorEq]
          repeat' ((first | refine FK_split (fun h_ => ?_) (fun h_ => ?_) | refine GK_split (fun h_ => ?_) (fun h_ => ?_) | refine ite_both (fun h_ => ?_) (fun h_ => ?_)) <;> (try simp only [decide_eq_true_eq, decide_eq_false_iff_not, Bool.not_true, Bool.not_false, Bool.not_eq_true', Bool.not_eq_false', Bool.not_eq_eq_eq_not, Decidable.not_not] at h_) <;> (try simp only [r20_23, r20_24, s17, g0, g10, g16, g12, hen, va, h_, go_sem, Int.reduceTMod, Int.reduceTDiv, Int.reduceDiv, Int.reduceMod, Int.reduceAdd, Int.reduceSub, Int.reduceMul, Int.reduceNeg, Int.reducePow, Int.reduceEq, ↓reduceIte, Nat.reduceEqDiff, Nat.reduceAdd, Nat.reduceMul, Nat.reduceLeDiff, Nat.reduceSub, Nat.reduceLT, Int.reduceToNat, Int.reduceLT, Int.reduceLE, reduceCtorEq]))
          refine K_push cs2 (by decide) (p := aE) (o := true) sO (by omega) (fun id q1 q2 => upd_ne _ _ (by omega)) (upd_same _ _ _) (by rw [List.length_append]; omega) (by omega) ?_
          intro r' m' hO' hf1 hf2
          try simp only [go_sem, Int.reduceTMod, Int.reduceTDiv, Int.reduceDiv, Int.reduceMod, Int.reduceAdd, Int.reduceSub, Int.reduceMul, Int.reduceNeg, Int.reducePow, Int.reduceEq, ↓reduceIte, Nat.reduceEqDiff, Nat.reduceAdd, Nat.reduceMul, Nat.reduceLeDiff, Nat.reduceSub, Nat.reduceLT, Int.reduceToNat, Int.reduceLT, Int.reduceLE, reduceCtorEq]
          repeat' ((first | refine FK_split (fun h_ => ?_) (fun h_ => ?_) | refine GK_split (fun h_ => ?_) (fun h_ => ?_) | refine ite_both (fun h_ => ?_) (fun h_ => ?_)) <;> (try simp only [decide_eq_true_eq, decide_eq_false_iff_not, Bool.not_true, Bool.not_false, Bool.not_eq_true', Bool.not_eq_false', Bool.not_eq_eq_eq_not, Decidable.not_not] at h_) <;> (try simp only [h_, go_sem, Int.reduceTMod, Int.reduceTDiv, Int.reduceDiv, Int.reduceMod, Int.reduceAdd, Int.reduceSub, Int.reduceMul, Int.reduceNeg, Int.reducePow, Int.reduceEq, ↓reduceIte, Nat.reduceEqDiff, Nat.reduceAdd, Nat.reduceMul, Nat.reduceLeDiff, Nat.reduceSub, Nat.reduceLT, Int.reduceToNat, Int.reduceLT, Int.reduceLE, reduceCtorEq]))
          refine tailR _ _ _ r' (by omega) (by rw [hpc]; exact hO') (fun id hid => by rw [hf1 id hid, upd_ne _ _ (by omega)]; exact hM2 id hid) ⟨?_, ?_, ?_, ?_, ?_, ?_, ?_, ?_, ?_⟩ ?_
          · simp only [g0, go_sem, Int.reduceTMod, Int.reduceTDiv, Int.reduceDiv, Int.reduceMod, Int.reduceAdd, Int.reduceSub, Int.reduceMul, Int.reduceNeg, Int.reducePow, Int.reduceEq, ↓reduceIte, Nat.reduceEqDiff, Nat.reduceAdd, Nat.reduceMul, Nat.reduceLeDiff, Nat.reduceSub, Nat.reduceLT, Int.reduceToNat, Int.reduceLT, Int.reduceLE, reduceCtorEq]
          · simp only [g1, go_sem, Int.reduceTMod, Int.reduceTDiv, Int.reduceDiv, Int.reduceMod, Int.reduceAdd, Int.reduceSub, Int.reduceMul, Int.reduceNeg, Int.reducePow, Int.reduceEq, ↓reduceIte, Nat.reduceEqDiff, Nat.reduceAdd, Nat.reduceMul, Nat.reduceLeDiff, Nat.reduceSub, Nat.reduceLT, Int.reduceToNat, Int.reduceLT, Int.reduceLE, reduceCtorEq]
          · simp only [g3, go_sem, Int.reduceTMod, Int.reduceTDiv, Int.reduceDiv, Int.reduceMod, Int.reduceAdd, Int.reduceSub, Int.reduceMul, Int.reduceNeg, Int.reducePow, Int.reduceEq, ↓reduceIte, Nat.reduceEqDiff, Nat.reduceAdd, Nat.reduceMul, Nat.reduceLeDiff, Nat.reduceSub, Nat.reduceLT, Int.reduceToNat, Int.reduceLT, Int.reduceLE, reduceCtorEq]
          · simp only [g10, go_sem, Int.reduceTMod, Int.reduceTDiv, Int.reduceDiv, Int.reduceMod, Int.reduceAdd, Int.reduceSub, Int.reduceMul, Int.reduceNeg, Int.reducePow, Int.reduceEq, ↓reduceIte, Nat.reduceEqDiff, Nat.reduceAdd, Nat.reduceMul, Nat.reduceLeDiff, Nat.reduceSub, Nat.reduceLT, Int.reduceToNat, Int.reduceLT, Int.reduceLE, reduceCtorEq]
          · simp only [g12, go_sem, Int.reduceTMod, Int.reduceTDiv, Int.reduceDiv, Int.reduceMod, Int.reduceAdd, Int.reduceSub, Int.reduceMul, Int.reduceNeg, Int.reducePow, Int.reduceEq, ↓reduceIte, Nat.reduceEqDiff, Nat.reduceAdd, Nat.reduceMul, Nat.reduceLeDiff, Nat.reduceSub, Nat.reduceLT, Int.reduceToNat, Int.reduceLT, Int.reduceLE, reduceCtorEq]
          · simp only [g13, go_sem, Int.reduceTMod, Int.reduceTDiv, Int.reduceDiv, Int.reduceMod, Int.reduceAdd, Int.reduceSub, Int.reduceMul, Int.reduceNeg, Int.reducePow, Int.reduceEq, ↓reduceIte, Nat.reduceEqDiff, Nat.reduceAdd, Nat.reduceMul, Nat.reduceLeDiff, Nat.reduceSub, Nat.reduceLT, Int.reduceToNat, Int.reduceLT, Int.reduceLE, reduceCtorEq]
          · simp only [g14, go_sem, Int.reduceTMod, Int.reduceTDiv, Int.reduceDiv, Int.reduceMod, Int.reduceAdd, Int.reduceSub, Int.reduceMul, Int.reduceNeg, Int.reducePow, Int.reduceEq, ↓reduceIte, Nat.reduceEqDiff, Nat.reduceAdd, Nat.reduceMul, Nat.reduceLeDiff, Nat.reduceSub, Nat.reduceLT, Int.reduceToNat, Int.reduceLT, Int.reduceLE, reduceCtorEq]
          · simp only [g15, go_sem, Int.reduceTMod, Int.reduceTDiv, Int.reduceDiv, Int.reduceMod, Int.reduceAdd, Int.reduceSub, Int.reduceMul, Int.reduceNeg, Int.reducePow, Int.reduceEq, ↓reduceIte, Nat.reduceEqDiff, Nat.reduceAdd, Nat.reduceMul, Nat.reduceLeDiff, Nat.reduceSub, Nat.reduceLT, Int.reduceToNat, Int.reduceLT, Int.reduceLE, reduceCtorEq]
          · simp only [g16, go_sem, Int.reduceTMod, Int.reduceTDiv, Int.reduceDiv, Int.reduceMod, Int.reduceAdd, Int.reduceSub, Int.reduceMul, Int.reduceNeg, Int.reducePow, Int.reduceEq, ↓reduceIte, Nat.reduceEqDiff, Nat.reduceAdd, Nat.reduceMul, Nat.reduceLeDiff, Nat.reduceSub, Nat.reduceLT, Int.reduceToNat, Int.reduceLT, Int.reduceLE, reduceCtorEq]
          · simp only [go_sem, Int.reduceTMod, Int.reduceTDiv, Int.reduceDiv, Int.reduceMod, Int.reduceAdd, Int.reduceSub, Int.reduceMul, Int.reduceNeg, Int.reducePow, Int.reduceEq, ↓reduceIte, Nat.reduceEqDiff, Nat.reduceAdd, Nat.reduceMul, Nat.reduceLeDiff, Nat.reduceSub, Nat.reduceLT, Int.reduceToNat, Int.reduceLT, Int.reduceLE, reduceCtorEq]
        · rw [if_neg hen, List.append_nil] at hpc
          try simp only [r20_23, g16, g12, hen, go_sem, Int.reduceTMod, Int.reduceTDiv, Int.reduceDiv, Int.reduceMod, Int.reduceAdd, Int.reduceSub, Int.reduceMul, Int.reduceNeg, Int.reducePow, Int.reduceEq, ↓reduceIte, Nat.reduceEqDiff, Nat.reduceAdd, Nat.reduceMul, Nat.reduceLeDiff, Nat.reduceSub, Nat.reduceLT, Int.reduceToNat, Int.reduceLT, Int.reduceLE, reduceCtorEq]
          repeat' ((first | refine FK_split (fun h_ => ?_) (fun h_ => ?_) | refine GK_split (fun h_ => ?_) (fun h_ => ?_) | refine ite_both (fun h_ => ?_) (fun h_ => ?_)) <;> (try simp only [decide_eq_true_eq, decide_eq_false_iff_not, Bool.not_true, Bool.not_false, Bool.not_eq_true', Bool.not_eq_false', Bool.not_eq_eq_eq_not, Decidable.not_not] at h_) <;> (try simp only [r20_23, g16, g12, hen, h_, go_sem, Int.reduceTMod, Int.reduceTDiv, Int.reduceDiv, Int.reduceMod, Int.reduceAdd, Int.reduceSub, Int.reduceMul, Int.reduceNeg, Int.reducePow, Int.reduceEq, ↓reduceIte, Nat.reduceEqDiff, Nat.reduceAdd, Nat.reduceMul, Nat.reduceLeDiff, Nat.reduceSub, Nat.reduceLT, Int.reduceToNat, Int.reduceLT, Int.reduceLE, reduceCtorEq]))
          refine tailR _ _ _ rp' (by omega) (by rw [hpc]; exact sO) hM2 ⟨?_, ?_, ?_, ?_, ?_, ?_, ?_, ?_, ?_⟩ ?_
          · simp only [g0, go_sem, Int.reduceTMod, Int.reduceTDiv, Int.reduceDiv, Int.reduceMod, Int.reduceAdd, Int.reduceSub, Int.reduceMul, Int.reduceNeg, Int.reducePow, Int.reduceEq, ↓reduceIte, Nat.reduceEqDiff, Nat.reduceAdd, Nat.reduceMul, Nat.reduceLeDiff, Nat.reduceSub, Nat.reduceLT, Int.reduceToNat, Int.reduceLT, Int.reduceLE, reduceCtorEq]
          · simp only [g1, go_sem, Int.reduceTMod, Int.reduceTDiv, Int.reduceDiv, Int.reduceMod, Int.reduceAdd, Int.reduceSub, Int.reduceMul, Int.reduceNeg, Int.reducePow, Int.reduceEq, ↓reduceIte, Nat.reduceEqDiff, Nat.reduceAdd, Nat.reduceMul, Nat.reduceLeDiff, Nat.reduceSub, Nat.reduceLT, Int.reduceToNat, Int.reduceLT, Int.reduceLE, reduceCtorEq]
          · simp only [g3, go_sem, Int.reduceTMod, Int.reduceTDiv, Int.reduceDiv, Int.reduceMod, Int.reduceAdd, Int.reduceSub, Int.reduceMul, Int.reduceNeg, Int.reducePow, Int.reduceEq, ↓reduceIte, Nat.reduceEqDiff, Nat.reduceAdd, Nat.reduceMul, Nat.reduceLeDiff, Nat.reduceSub, Nat.reduceLT, Int.reduceToNat, Int.reduceLT, Int.reduceLE, reduceCtorEq]
          · simp only [g10, go_sem, Int.reduceTMod, Int.reduceTDiv, Int.reduceDiv, Int.reduceMod, Int.reduceAdd, Int.reduceSub, Int.reduceMul, Int.reduceNeg, Int.reducePow, Int.reduceEq, ↓reduceIte, Nat.reduceEqDiff, Nat.reduceAdd, Nat.reduceMul, Nat.reduceLeDiff, Nat.reduceSub, Nat.reduceLT, Int.reduceToNat, Int.reduceLT, Int.reduceLE, reduceCtorEq]
          · simp only [g12, go_sem, Int.reduceTMod, Int.reduceTDiv, Int.reduceDiv, Int.reduceMod, Int.reduceAdd, Int.reduceSub, Int.reduceMul, Int.reduceNeg, Int.reducePow, Int.reduceEq, ↓reduceIte, Nat.reduceEqDiff, Nat.reduceAdd, Nat.reduceMul, Nat.reduceLeDiff, Nat.reduceSub, Nat.reduceLT, Int.reduceToNat, Int.reduceLT, Int.reduceLE, reduceCtorEq]
          · simp only [g13, go_sem, Int.reduceTMod, Int.reduceTDiv, Int.reduceDiv, Int.reduceMod, Int.reduceAdd, Int.reduceSub, Int.reduceMul, Int.reduceNeg, Int.reducePow, Int.reduceEq, ↓reduceIte, Nat.reduceEqDiff, Nat.reduceAdd, Nat.reduceMul, Nat.reduceLeDiff, Nat.reduceSub, Nat.reduceLT, Int.reduceToNat, Int.reduceLT, Int.reduceLE, reduceCtorEq]
          · simp only [g14, go_sem, Int.reduceTMod, Int.reduceTDiv, Int.reduceDiv, Int.reduceMod, Int.reduceAdd, Int.reduceSub, Int.reduceMul, Int.reduceNeg, Int.reducePow, Int.reduceEq, ↓reduceIte, Nat.reduceEqDiff, Nat.reduceAdd, Nat.reduceMul, Nat.reduceLeDiff, Nat.reduceSub, Nat.reduceLT, Int.reduceToNat, Int.reduceLT, Int.reduceLE, reduceCtorEq]
          · simp only [g15, go_sem, Int.reduceTMod, Int.reduceTDiv, Int.reduceDiv, Int.reduceMod, Int.reduceAdd, Int.reduceSub, Int.reduceMul, Int.reduceNeg, Int.reducePow, Int.reduceEq, ↓reduceIte, Nat.reduceEqDiff, Nat.reduceAdd, Nat.reduceMul, Nat.reduceLeDiff, Nat.reduceSub, Nat.reduceLT, Int.reduceToNat, Int.reduceLT, Int.reduceLE, reduceCtorEq]
          · simp only [g16, go_sem, Int.reduceTMod, Int.reduceTDiv, Int.reduceDiv, Int.reduceMod, Int.reduceAdd, Int.reduceSub, Int.reduceMul, Int.reduceNeg, Int.reducePow, Int.reduceEq, ↓reduceIte, Nat.reduceEqDiff, Nat.reduceAdd, Nat.reduceMul, Nat.reduceLeDiff, Nat.reduceSub, Nat.reduceLT, Int.reduceToNat, Int.reduceLT, Int.reduceLE, reduceCtorEq]
          · simp only [s17, go_sem, Int.reduceTMod, Int.reduceTDiv, Int.reduceDiv, Int.reduceMod, Int.reduceAdd, Int.reduceSub, Int.reduceMul, Int.reduceNeg, Int.reducePow, Int.reduceEq, ↓reduceIte, Nat.reduceEqDiff, Nat.reduceAdd, Nat.reduceMul, Nat.reduceLeDiff, Nat.reduceSub, Nat.reduceLT, Int.reduceToNat, Int.reduceLT, Int.reduceLE, reduceCtorEq]
      by_cases hbz : Bk pat ph kk ≤ 0
      · have hq0 : way[0]? = some (way[0]'(by omega)) := List.getElem?_eq_getElem (by omega)
        obtain ⟨wid, woff, wcap, hwr, hwid, hwa⟩ := hwM.at cs2 hq0
        rw [Nat.zero_mul, Nat.add_zero] at hwa
        have hbeg : begR way (Bk pat ph kk) = [way[0]'(by omega)] := by
          unfold begR
          rw [if_pos hbz]
          exact take_one way (by omega)
        generalize (way[0]'(by omega)) = a0 at *
        have q0' := q0
        rw [hwr] at q0'
        have d3 : ((0 : Int) < (way.length : Int)) = True := eq_true (by omega)
        have z1 := na_0 hwid
        try simp only [r20_0, r20_1, r20_2, r20_3, r20_5, r20_4, r20_6, r20_7, r20_8, r20_9, r20_10, r20_12, r20_13, r20_14, r20_15, r20_16, r20_17, r20_18, r20_19, r20_21, r20_22, r20_20, r20_23, r20_24, r20_25, r20_26, r20_27, r20_28, r20_11, r20_29, c20, F20, l20_2, q14, q12, q1', q15, q0', g, w1, w2, w3, w4, d1, d2, v1, ev2, hbz, hbb, hcc, hwa, d3, z1, lenO, Int.toNat_natCast, Int.toNat_zero, Nat.zero_mul, Nat.add_zero, Nat.mul_one, go_sem, Int.reduceTMod, Int.reduceTDiv, Int.reduceDiv, Int.reduceMod, Int.reduceAdd, Int.reduceSub, Int.reduceMul, Int.reduceNeg, Int.reducePow, Int.reduceEq, ↓reduceIte, Nat.reduceEqDiff, Nat.reduceAdd, Nat.reduceMul, Nat.reduceLeDiff, Nat.reduceSub, Nat.reduceLT, Int.reduceToNat, Int.reduceLT, Int.reduceLE, reduceCtorEq]
        repeat' ((first | refine FK_split (fun h_ => ?_) (fun h_ => ?_) | refine GK_split (fun h_ => ?_) (fun h_ => ?_) | refine ite_both (fun h_ => ?_) (fun h_ => ?_)) <;> (try simp only [decide_eq_true_eq, decide_eq_false_iff_not, Bool.not_true, Bool.not_false, Bool.not_eq_true', Bool.not_eq_false', Bool.not_eq_eq_eq_not, Decidable.not_not] at h_) <;> (try simp only [r20_0, r20_1, r20_2, r20_3, r20_5, r20_4, r20_6, r20_7, r20_8, r20_9, r20_10, r20_12, r20_13, r20_14, r20_15, r20_16, r20_17, r20_18, r20_19, r20_21, r20_22, r20_20, r20_23, r20_24, r20_25, r20_26, r20_27, r20_28, r20_11, r20_29, c20, F20, l20_2, q14, q12, q1', q15, q0', g, w1, w2, w3, w4, d1, d2, v1, ev2, hbz, hbb, hcc, hwa, d3, z1, lenO, Int.toNat_natCast, Int.toNat_zero, Nat.zero_mul, Nat.add_zero, Nat.mul_one, h_, go_sem, Int.reduceTMod, Int.reduceTDiv, Int.reduceDiv, Int.reduceMod, Int.reduceAdd, Int.reduceSub, Int.reduceMul, Int.reduceNeg, Int.reducePow, Int.reduceEq, ↓reduceIte, Nat.reduceEqDiff, Nat.reduceAdd, Nat.reduceMul, Nat.reduceLeDiff, Nat.reduceSub, Nat.reduceLT, Int.reduceToNat, Int.reduceLT, Int.reduceLE, reduceCtorEq]))
        refine K_push cs2 (by decide) (p := a0) (o := true) (OL.nil (base := N) (m := M) (n := N)) (by omega) (fun id q1 q2 => by omega) (upd_same _ _ _) (by simp) (by omega) ?_
        intro r' m' hO' hf1 hf2
        try simp only [go_sem, Int.reduceTMod, Int.reduceTDiv, Int.reduceDiv, Int.reduceMod, Int.reduceAdd, Int.reduceSub, Int.reduceMul, Int.reduceNeg, Int.reducePow, Int.reduceEq, ↓reduceIte, Nat.reduceEqDiff, Nat.reduceAdd, Nat.reduceMul, Nat.reduceLeDiff, Nat.reduceSub, Nat.reduceLT, Int.reduceToNat, Int.reduceLT, Int.reduceLE, reduceCtorEq]
        repeat' ((first | refine FK_split (fun h_ => ?_) (fun h_ => ?_) | refine GK_split (fun h_ => ?_) (fun h_ => ?_) | refine ite_both (fun h_ => ?_) (fun h_ => ?_)) <;> (try simp only [decide_eq_true_eq, decide_eq_false_iff_not, Bool.not_true, Bool.not_false, Bool.not_eq_true', Bool.not_eq_false', Bool.not_eq_eq_eq_not, Decidable.not_not] at h_) <;> (try simp only [h_, go_sem, Int.reduceTMod, Int.reduceTDiv, Int.reduceDiv, Int.reduceMod, Int.reduceAdd, Int.reduceSub, Int.reduceMul, Int.reduceNeg, Int.reducePow, Int.reduceEq, ↓reduceIte, Nat.reduceEqDiff, Nat.reduceAdd, Nat.reduceMul, Nat.reduceLeDiff, Nat.reduceSub, Nat.reduceLT, Int.reduceToNat, Int.reduceLT, Int.reduceLE, reduceCtorEq]))
        refine tailM _ _ _ r' [a0] (by omega) hbeg.symm (by simp) hO' (fun id hid => by rw [hf1 id hid, upd_ne _ _ (by omega)]) ⟨?_, ?_, ?_, ?_, ?_, ?_, ?_, ?_, ?_⟩ ?_ ?_
        · simp only [q0, go_sem, Int.reduceTMod, Int.reduceTDiv, Int.reduceDiv, Int.reduceMod, Int.reduceAdd, Int.reduceSub, Int.reduceMul, Int.reduceNeg, Int.reducePow, Int.reduceEq, ↓reduceIte, Nat.reduceEqDiff, Nat.reduceAdd, Nat.reduceMul, Nat.reduceLeDiff, Nat.reduceSub, Nat.reduceLT, Int.reduceToNat, Int.reduceLT, Int.reduceLE, reduceCtorEq]
        · simp only [q1, go_sem, Int.reduceTMod, Int.reduceTDiv, Int.reduceDiv, Int.reduceMod, Int.reduceAdd, Int.reduceSub, Int.reduceMul, Int.reduceNeg, Int.reducePow, Int.reduceEq, ↓reduceIte, Nat.reduceEqDiff, Nat.reduceAdd, Nat.reduceMul, Nat.reduceLeDiff, Nat.reduceSub, Nat.reduceLT, Int.reduceToNat, Int.reduceLT, Int.reduceLE, reduceCtorEq]
        · simp only [q3, go_sem, Int.reduceTMod, Int.reduceTDiv, Int.reduceDiv, Int.reduceMod, Int.reduceAdd, Int.reduceSub, Int.reduceMul, Int.reduceNeg, Int.reducePow, Int.reduceEq, ↓reduceIte, Nat.reduceEqDiff, Nat.reduceAdd, Nat.reduceMul, Nat.reduceLeDiff, Nat.reduceSub, Nat.reduceLT, Int.reduceToNat, Int.reduceLT, Int.reduceLE, reduceCtorEq]
        · simp only [q10, go_sem, Int.reduceTMod, Int.reduceTDiv, Int.reduceDiv, Int.reduceMod, Int.reduceAdd, Int.reduceSub, Int.reduceMul, Int.reduceNeg, Int.reducePow, Int.reduceEq, ↓reduceIte, Nat.reduceEqDiff, Nat.reduceAdd, Nat.reduceMul, Nat.reduceLeDiff, Nat.reduceSub, Nat.reduceLT, Int.reduceToNat, Int.reduceLT, Int.reduceLE, reduceCtorEq]
        · simp only [q12, go_sem, Int.reduceTMod, Int.reduceTDiv, Int.reduceDiv, Int.reduceMod, Int.reduceAdd, Int.reduceSub, Int.reduceMul, Int.reduceNeg, Int.reducePow, Int.reduceEq, ↓reduceIte, Nat.reduceEqDiff, Nat.reduceAdd, Nat.reduceMul, Nat.reduceLeDiff, Nat.reduceSub, Nat.reduceLT, Int.reduceToNat, Int.reduceLT, Int.reduceLE, reduceCtorEq]
        · simp only [q13, go_sem, Int.reduceTMod, Int.reduceTDiv, Int.reduceDiv, Int.reduceMod, Int.reduceAdd, Int.reduceSub, Int.reduceMul, Int.reduceNeg, Int.reducePow, Int.reduceEq, ↓reduceIte, Nat.reduceEqDiff, Nat.reduceAdd, Nat.reduceMul, Nat.reduceLeDiff, Nat.reduceSub, Nat.reduceLT, Int.reduceToNat, Int.reduceLT, Int.reduceLE, reduceCtorEq]
        · simp only [q14, go_sem, Int.reduceTMod, Int.reduceTDiv, Int.reduceDiv, Int.reduceMod, Int.reduceAdd, Int.reduceSub, Int.reduceMul, Int.reduceNeg, Int.reducePow, Int.reduceEq, ↓reduceIte, Nat.reduceEqDiff, Nat.reduceAdd, Nat.reduceMul, Nat.reduceLeDiff, Nat.reduceSub, Nat.reduceLT, Int.reduceToNat, Int.reduceLT, Int.reduceLE, reduceCtorEq]
        · simp only [q15, go_sem, Int.reduceTMod, Int.reduceTDiv, Int.reduceDiv, Int.reduceMod, Int.reduceAdd, Int.reduceSub, Int.reduceMul, Int.reduceNeg, Int.reducePow, Int.reduceEq, ↓reduceIte, Nat.reduceEqDiff, Nat.reduceAdd, Nat.reduceMul, Nat.reduceLeDiff, Nat.reduceSub, Nat.reduceLT, Int.reduceToNat, Int.reduceLT, Int.reduceLE, reduceCtorEq]
        · simp only [go_sem, Int.reduceTMod, Int.reduceTDiv, Int.reduceDiv, Int.reduceMod, Int.reduceAdd, Int.reduceSub, Int.reduceMul, Int.reduceNeg, Int.reducePow, Int.reduceEq, ↓reduceIte, Nat.reduceEqDiff, Nat.reduceAdd, Nat.reduceMul, Nat.reduceLeDiff, Nat.reduceSub, Nat.reduceLT, Int.reduceToNat, Int.reduceLT, Int.reduceLE, reduceCtorEq]
        · simp only [go_sem, Int.reduceTMod, Int.reduceTDiv, Int.reduceDiv, Int.reduceMod, Int.reduceAdd, Int.reduceSub, Int.reduceMul, Int.reduceNeg, Int.reducePow, Int.reduceEq, ↓reduceIte, Nat.reduceEqDiff, Nat.reduceAdd, Nat.reduceMul, Nat.reduceLeDiff, Nat.reduceSub, Nat.reduceLT, Int.reduceToNat, Int.reduceLT, Int.reduceLE, reduceCtorEq]
        · simp only [go_sem, Int.reduceTMod, Int.reduceTDiv, Int.reduceDiv, Int.reduceMod, Int.reduceAdd, Int.reduceSub, Int.reduceMul, Int.reduceNeg, Int.reducePow, Int.reduceEq, ↓reduceIte, Nat.reduceEqDiff, Nat.reduceAdd, Nat.reduceMul, Nat.reduceLeDiff, Nat.reduceSub, Nat.reduceLT, Int.reduceToNat, Int.reduceLT, Int.reduceLE, reduceCtorEq]
      · have va := v_rat hW (wr := wr) (er := er) (d := Bk pat ph kk) (by omega) g (frz M) N hwM.frz heM.frz
        have hbeg : begR way (Bk pat ph kk) = [atR way (Bk pat ph kk)] := by
          unfold begR
          rw [if_neg hbz]
        generalize atR way (Bk pat ph kk) = a0 at *
        try simp only [r20_0, r20_1, r20_2, r20_3, r20_5, r20_4, r20_6, r20_7, r20_8, r20_9, r20_10, r20_12, r20_13, r20_14, r20_15, r20_16, r20_17, r20_18, r20_19, r20_21, r20_22, r20_20, r20_23, r20_24, r20_25, r20_26, r20_27, r20_28, r20_11, r20_29, c20, F20, l20_2, q14, q12, q1', q15, q0, q10, g, w1, w2, w3, w4, d1, d2, v1, ev2, hbz, hbb, hcc, va, lenO, Int.toNat_natCast, Nat.mul_one, go_sem, Int.reduceTMod, Int.reduceTDiv, Int.reduceDiv, Int.reduceMod, Int.reduceAdd, Int.reduceSub, Int.reduceMul, Int.reduceNeg, Int.reducePow, Int.reduceEq, ↓reduceIte, Nat.reduceEqDiff, Nat.reduceAdd, Nat.reduceMul, Nat.reduceLeDiff, Nat.reduceSub, Nat.reduceLT, Int.reduceToNat, Int.reduceLT, Int.reduceLE, reduceCtorEq]
        repeat' ((first | refine FK_split (fun h_ => ?_) (fun h_ => ?_) | refine GK_split (fun h_ => ?_) (fun h_ => ?_) | refine ite_both (fun h_ => ?_) (fun h_ => ?_)) <;> (try simp only [decide_eq_true_eq, decide_eq_false_iff_not, Bool.not_true, Bool.not_false, Bool.not_eq_true', Bool.not_eq_false', Bool.not_eq_eq_eq_not, Decidable.not_not] at h_) <;> (try simp only [r20_0, r20_1, r20_2, r20_3, r20_5, r20_4, r20_6, r20_7, r20_8, r20_9, r20_10, r20_12, r20_13, r20_14, r20_15, r20_16, r20_17, r20_18, r20_19, r20_21, r20_22, r20_20, r20_23, r20_24, r20_25, r20_26, r20_27, r20_28, r20_11, r20_29, c20, F20, l20_2, q14, q12, q1', q15, q0, q10, g, w1, w2, w3, w4, d1, d2, v1, ev2, hbz, hbb, hcc, va, lenO, Int.toNat_natCast, Nat.mul_one, h_, go_sem, Int.reduceTMod, Int.reduceTDiv, Int.reduceDiv, Int.reduceMod, Int.reduceAdd, Int.reduceSub, Int.reduceMul, Int.reduceNeg, Int.reducePow, Int.reduceEq, ↓reduceIte, Nat.reduceEqDiff, Nat.reduceAdd, Nat.reduceMul, Nat.reduceLeDiff, Nat.reduceSub, Nat.reduceLT, Int.reduceToNat, Int.reduceLT, Int.reduceLE, reduceCtorEq]))
        refine K_push cs2 (by decide) (p := a0) (o := true) (OL.nil (base := N) (m := M) (n := N)) (by omega) (fun id q1 q2 => by omega) (upd_same _ _ _) (by simp) (by omega) ?_
        intro r' m' hO' hf1 hf2
        try simp only [go_sem, Int.reduceTMod, Int.reduceTDiv, Int.reduceDiv, Int.reduceMod, Int.reduceAdd, Int.reduceSub, Int.reduceMul, Int.reduceNeg, Int.reducePow, Int.reduceEq, ↓reduceIte, Nat.reduceEqDiff, Nat.reduceAdd, Nat.reduceMul, Nat.reduceLeDiff, Nat.reduceSub, Nat.reduceLT, Int.reduceToNat, Int.reduceLT, Int.reduceLE, reduceCtorEq]
        repeat' ((first | refine FK_split (fun h_ => ?_) (fun h_ => ?_) | refine GK_split (fun h_ => ?_) (fun h_ => ?_) | refine ite_both (fun h_ => ?_) (fun h_ => ?_)) <;> (try simp only [decide_eq_true_eq, decide_eq_false_iff_not, Bool.not_true, Bool.not_false, Bool.not_eq_true', Bool.not_eq_false', Bool.not_eq_eq_eq_not, Decidable.not_not] at h_) <;> (try simp only [h_, go_sem, Int.reduceTMod, Int.reduceTDiv, Int.reduceDiv, Int.reduceMod, Int.reduceAdd, Int.reduceSub, Int.reduceMul, Int.reduceNeg, Int.reducePow, Int.reduceEq, ↓reduceIte, Nat.reduceEqDiff, Nat.reduceAdd, Nat.reduceMul, Nat.reduceLeDiff, Nat.reduceSub, Nat.reduceLT, Int.reduceToNat, Int.reduceLT, Int.reduceLE, reduceCtorEq]))
        refine tailM _ _ _ r' [a0] (by omega) hbeg.symm (by simp) hO' (fun id hid => by rw [hf1 id hid, upd_ne _ _ (by omega)]) ⟨?_, ?_, ?_, ?_, ?_, ?_, ?_, ?_, ?_⟩ ?_ ?_
        · simp only [q0, go_sem, Int.reduceTMod, Int.reduceTDiv, Int.reduceDiv, Int.reduceMod, Int.reduceAdd, Int.reduceSub, Int.reduceMul, Int.reduceNeg, Int.reducePow, Int.reduceEq, ↓reduceIte, Nat.reduceEqDiff, Nat.reduceAdd, Nat.reduceMul, Nat.reduceLeDiff, Nat.reduceSub, Nat.reduceLT, Int.reduceToNat, Int.reduceLT, Int.reduceLE, reduceCtorEq]
        · simp only [q1, go_sem, Int.reduceTMod, Int.reduceTDiv, Int.reduceDiv, Int.reduceMod, Int.reduceAdd, Int.reduceSub, Int.reduceMul, Int.reduceNeg, Int.reducePow, Int.reduceEq, ↓reduceIte, Nat.reduceEqDiff, Nat.reduceAdd, Nat.reduceMul, Nat.reduceLeDiff, Nat.reduceSub, Nat.reduceLT, Int.reduceToNat, Int.reduceLT, Int.reduceLE, reduceCtorEq]
        · simp only [q3, go_sem, Int.reduceTMod, Int.reduceTDiv, Int.reduceDiv, Int.reduceMod, Int.reduceAdd, Int.reduceSub, Int.reduceMul, Int.reduceNeg, Int.reducePow, Int.reduceEq, ↓reduceIte, Nat.reduceEqDiff, Nat.reduceAdd, Nat.reduceMul, Nat.reduceLeDiff, Nat.reduceSub, Nat.reduceLT, Int.reduceToNat, Int.reduceLT, Int.reduceLE, reduceCtorEq]
        · simp only [q10, go_sem, Int.reduceTMod, Int.reduceTDiv, Int.reduceDiv, Int.reduceMod, Int.reduceAdd, Int.reduceSub, Int.reduceMul, Int.reduceNeg, Int.reducePow, Int.reduceEq, ↓reduceIte, Nat.reduceEqDiff, Nat.reduceAdd, Nat.reduceMul, Nat.reduceLeDiff, Nat.reduceSub, Nat.reduceLT, Int.reduceToNat, Int.reduceLT, Int.reduceLE, reduceCtorEq]
        · simp only [q12, go_sem, Int.reduceTMod, Int.reduceTDiv, Int.reduceDiv, Int.reduceMod, Int.reduceAdd, Int.reduceSub, Int.reduceMul, Int.reduceNeg, Int.reducePow, Int.reduceEq, ↓reduceIte, Nat.reduceEqDiff, Nat.reduceAdd, Nat.reduceMul, Nat.reduceLeDiff, Nat.reduceSub, Nat.reduceLT, Int.reduceToNat, Int.reduceLT, Int.reduceLE, reduceCtorEq]
        · simp only [q13, go_sem, Int.reduceTMod, Int.reduceTDiv, Int.reduceDiv, Int.reduceMod, Int.reduceAdd, Int.reduceSub, Int.reduceMul, Int.reduceNeg, Int.reducePow, Int.reduceEq, ↓reduceIte, Nat.reduceEqDiff, Nat.reduceAdd, Nat.reduceMul, Nat.reduceLeDiff, Nat.reduceSub, Nat.reduceLT, Int.reduceToNat, Int.reduceLT, Int.reduceLE, reduceCtorEq]
        · simp only [q14, go_sem, Int.reduceTMod, Int.reduceTDiv, Int.reduceDiv, Int.reduceMod, Int.reduceAdd, Int.reduceSub, Int.reduceMul, Int.reduceNeg, Int.reducePow, Int.reduceEq, ↓reduceIte, Nat.reduceEqDiff, Nat.reduceAdd, Nat.reduceMul, Nat.reduceLeDiff, Nat.reduceSub, Nat.reduceLT, Int.reduceToNat, Int.reduceLT, Int.reduceLE, reduceCtorEq]
        · simp only [q15, go_sem, Int.reduceTMod, Int.reduceTDiv, Int.reduceDiv, Int.reduceMod, Int.reduceAdd, Int.reduceSub, Int.reduceMul, Int.reduceNeg, Int.reducePow, Int.reduceEq, ↓reduceIte, Nat.reduceEqDiff, Nat.reduceAdd, Nat.reduceMul, Nat.reduceLeDiff, Nat.reduceSub, Nat.reduceLT, Int.reduceToNat, Int.reduceLT, Int.reduceLE, reduceCtorEq]
        · simp only [go_sem, Int.reduceTMod, Int.reduceTDiv, Int.reduceDiv, Int.reduceMod, Int.reduceAdd, Int.reduceSub, Int.reduceMul, Int.reduceNeg, Int.reducePow, Int.reduceEq, ↓reduceIte, Nat.reduceEqDiff, Nat.reduceAdd, Nat.reduceMul, Nat.reduceLeDiff, Nat.reduceSub, Nat.reduceLT, Int.reduceToNat, Int.reduceLT, Int.reduceLE, reduceCtorEq]
        · simp only [go_sem, Int.reduceTMod, Int.reduceTDiv, Int.reduceDiv, Int.reduceMod, Int.reduceAdd, Int.reduceSub, Int.reduceMul, Int.reduceNeg, Int.reducePow, Int.reduceEq, ↓reduceIte, Nat.reduceEqDiff, Nat.reduceAdd, Nat.reduceMul, Nat.reduceLeDiff, Nat.reduceSub, Nat.reduceLT, Int.reduceToNat, Int.reduceLT, Int.reduceLE, reduceCtorEq]
        · simp only [go_sem, Int.reduceTMod, Int.reduceTDiv, Int.reduceDiv, Int.reduceMod, Int.reduceAdd, Int.reduceSub, Int.reduceMul, Int.reduceNeg, Int.reducePow, Int.reduceEq, ↓reduceIte, Nat.reduceEqDiff, Nat.reduceAdd, Nat.reduceMul, Nat.reduceLeDiff, Nat.reduceSub, Nat.reduceLT, Int.reduceToNat, Int.reduceLT, Int.reduceLE, reduceCtorEq]
    · rw [if_neg hev] at hgo
      have done : ∀ e' : Nat → Reg, e' 0 = wr → e' 1 = pr → e' 3 = RI 4096 → e' 10 = er → e' 12 = RI (allD way) → e' 13 = ro → e' 14 = RI (Bk pat ph (kk + 1)) → e' 15 = RI ((kk + 1 : Nat) : Int) → XK TA (.loop L) ⟨e', M, N⟩ K := fun e' h0 h1 h3 h10 h12 h13 h14 h15 =>
        next _ _ m1 ⟨kk + 1, f', out, ro, rfl, m2, hgo, hO, hol, ⟨by omega, by omega⟩, ⟨h0, h1, h3, h10, h12⟩, h13, h14, h15, qn, qm⟩
      by_cases ev1 : kk % 2 = 0
      · have v1 : (((kk % 2 : Nat) : Int) = 0) = True := eq_true (by omega)
        have ev2 : (0 < Bk pat ph (kk + 1)) = False := eq_false (fun h => hev ⟨ev1, h⟩)
        try simp only [r20_0, r20_1, r20_2, r20_3, r20_5, r20_4, r20_6, r20_7, r20_8, r20_9, r20_10, r20_12, r20_13, r20_14, r20_15, r20_16, r20_17, r20_18, r20_19, r20_21, r20_22, r20_20, r20_23, r20_24, r20_25, r20_26, r20_27, r20_28, r20_11, r20_29, c20, F20, l20_2, q14, q12, q1', q15, g, w1, w2, w3, w4, w5, d1, d2, v1, ev2, hbb, hcc, lenO, Int.toNat_natCast, Nat.mul_one, go_sem, Int.reduceTMod, Int.reduceTDiv, Int.reduceDiv, Int.reduceMod, Int.reduceAdd, Int.reduceSub, Int.reduceMul, Int.reduceNeg, Int.reducePow, Int.reduceEq, ↓reduceIte, Nat.reduceEqDiff, Nat.reduceAdd, Nat.reduceMul, Nat.reduceLeDiff, Nat.reduceSub, Nat.reduceLT, Int.reduceToNat, Int.reduceLT, Int.reduceLE, reduceCtorEq]
        repeat' ((first | refine FK_split (fun h_ => ?_) (fun h_ => ?_) | refine GK_split (fun h_ => ?_) (fun h_ => ?_) | refine ite_both (fun h_ => ?_) (fun h_ => ?_)) <;> (try simp only [decide_eq_true_eq, decide_eq_false_iff_not, Bool.not_true, Bool.not_false, Bool.not_eq_true', Bool.not_eq_false', Bool.not_eq_eq_eq_not, Decidable.not_not] at h_) <;> (try simp only [r20_0, r20_1, r20_2, r20_3, r20_5, r20_4, r20_6, r20_7, r20_8, r20_9, r20_10, r20_12, r20_13, r20_14, r20_15, r20_16, r20_17, r20_18, r20_19, r20_21, r20_22, r20_20, r20_23, r20_24, r20_25, r20_26, r20_27, r20_28, r20_11, r20_29, c20, F20, l20_2, q14, q12, q1', q15, g, w1, w2, w3, w4, w5, d1, d2, v1, ev2, hbb, hcc, lenO, Int.toNat_natCast, Nat.mul_one, h_, go_sem, Int.reduceTMod, Int.reduceTDiv, Int.reduceDiv, Int.reduceMod, Int.reduceAdd, Int.reduceSub, Int.reduceMul, Int.reduceNeg, Int.reducePow, Int.reduceEq, ↓reduceIte, Nat.reduceEqDiff, Nat.reduceAdd, Nat.reduceMul, Nat.reduceLeDiff, Nat.reduceSub, Nat.reduceLT, Int.reduceToNat, Int.reduceLT, Int.reduceLE, reduceCtorEq]))
        refine done _ ?_ ?_ ?_ ?_ ?_ ?_ ?_ ?_
        · simp only [q0, go_sem, Int.reduceTMod, Int.reduceTDiv, Int.reduceDiv, Int.reduceMod, Int.reduceAdd, Int.reduceSub, Int.reduceMul, Int.reduceNeg, Int.reducePow, Int.reduceEq, ↓reduceIte, Nat.reduceEqDiff, Nat.reduceAdd, Nat.reduceMul, Nat.reduceLeDiff, Nat.reduceSub, Nat.reduceLT, Int.reduceToNat, Int.reduceLT, Int.reduceLE, reduceCtorEq]
        · simp only [q1, go_sem, Int.reduceTMod, Int.reduceTDiv, Int.reduceDiv, Int.reduceMod, Int.reduceAdd, Int.reduceSub, Int.reduceMul, Int.reduceNeg, Int.reducePow, Int.reduceEq, ↓reduceIte, Nat.reduceEqDiff, Nat.reduceAdd, Nat.reduceMul, Nat.reduceLeDiff, Nat.reduceSub, Nat.reduceLT, Int.reduceToNat, Int.reduceLT, Int.reduceLE, reduceCtorEq]
        · simp only [q3, go_sem, Int.reduceTMod, Int.reduceTDiv, Int.reduceDiv, Int.reduceMod, Int.reduceAdd, Int.reduceSub, Int.reduceMul, Int.reduceNeg, Int.reducePow, Int.reduceEq, ↓reduceIte, Nat.reduceEqDiff, Nat.reduceAdd, Nat.reduceMul, Nat.reduceLeDiff, Nat.reduceSub, Nat.reduceLT, Int.reduceToNat, Int.reduceLT, Int.reduceLE, reduceCtorEq]
        · simp only [q10, go_sem, Int.reduceTMod, Int.reduceTDiv, Int.reduceDiv, Int.reduceMod, Int.reduceAdd, Int.reduceSub, Int.reduceMul, Int.reduceNeg, Int.reducePow, Int.reduceEq, ↓reduceIte, Nat.reduceEqDiff, Nat.reduceAdd, Nat.reduceMul, Nat.reduceLeDiff, Nat.reduceSub, Nat.reduceLT, Int.reduceToNat, Int.reduceLT, Int.reduceLE, reduceCtorEq]
        · simp only [q12, go_sem, Int.reduceTMod, Int.reduceTDiv, Int.reduceDiv, Int.reduceMod, Int.reduceAdd, Int.reduceSub, Int.reduceMul, Int.reduceNeg, Int.reducePow, Int.reduceEq, ↓reduceIte, Nat.reduceEqDiff, Nat.reduceAdd, Nat.reduceMul, Nat.reduceLeDiff, Nat.reduceSub, Nat.reduceLT, Int.reduceToNat, Int.reduceLT, Int.reduceLE, reduceCtorEq]
        · simp only [q13, go_sem, Int.reduceTMod, Int.reduceTDiv, Int.reduceDiv, Int.reduceMod, Int.reduceAdd, Int.reduceSub, Int.reduceMul, Int.reduceNeg, Int.reducePow, Int.reduceEq, ↓reduceIte, Nat.reduceEqDiff, Nat.reduceAdd, Nat.reduceMul, Nat.reduceLeDiff, Nat.reduceSub, Nat.reduceLT, Int.reduceToNat, Int.reduceLT, Int.reduceLE, reduceCtorEq]
        · simp only [go_sem, Int.reduceTMod, Int.reduceTDiv, Int.reduceDiv, Int.reduceMod, Int.reduceAdd, Int.reduceSub, Int.reduceMul, Int.reduceNeg, Int.reducePow, Int.reduceEq, ↓reduceIte, Nat.reduceEqDiff, Nat.reduceAdd, Nat.reduceMul, Nat.reduceLeDiff, Nat.reduceSub, Nat.reduceLT, Int.reduceToNat, Int.reduceLT, Int.reduceLE, reduceCtorEq]
        · simp only [go_sem, Int.reduceTMod, Int.reduceTDiv, Int.reduceDiv, Int.reduceMod, Int.reduceAdd, Int.reduceSub, Int.reduceMul, Int.reduceNeg, Int.reducePow, Int.reduceEq, ↓reduceIte, Nat.reduceEqDiff, Nat.reduceAdd, Nat.reduceMul, Nat.reduceLeDiff, Nat.reduceSub, Nat.reduceLT, Int.reduceToNat, Int.reduceLT, Int.reduceLE, reduceCtorEq]
      · have v1 : (((kk % 2 : Nat) : Int) = 0) = False := eq_false (by omega)
        try simp only [r20_0, r20_1, r20_2, r20_3, r20_5, r20_4, r20_6, r20_7, r20_8, r20_9, r20_10, r20_12, r20_13, r20_14, r20_15, r20_16, r20_17, r20_18, r20_19, r20_21, r20_22, r20_20, r20_23, r20_24, r20_25, r20_26, r20_27, r20_28, r20_11, r20_29, c20, F20, l20_2, q14, q12, q1', q15, g, w1, w2, w3, w4, w5, d1, d2, v1, hbb, hcc, lenO, Int.toNat_natCast, Nat.mul_one, go_sem, Int.reduceTMod, Int.reduceTDiv, Int.reduceDiv, Int.reduceMod, Int.reduceAdd, Int.reduceSub, Int.reduceMul, Int.reduceNeg, Int.reducePow, Int.reduceEq, ↓reduceIte, Nat.reduceEqDiff, Nat.reduceAdd, Nat.reduceMul, Nat.reduceLeDiff, Nat.reduceSub, Nat.reduceLT, Int.reduceToNat, Int.reduceLT, Int.reduceLE, reduceCtorEq]
        repeat' ((first | refine FK_split (fun h_ => ?_) (fun h_ => ?_) | refine GK_split (fun h_ => ?_) (fun h_ => ?_) | refine ite_both (fun h_ => ?_) (fun h_ => ?_)) <;> (try simp only [decide_eq_true_eq, decide_eq_false_iff_not, Bool.not_true, Bool.not_false, Bool.not_eq_true', Bool.not_eq_false', Bool.not_eq_eq_eq_not, Decidable.not_not] at h_) <;> (try simp only [r20_0, r20_1, r20_2, r20_3, r20_5, r20_4, r20_6, r20_7, r20_8, r20_9, r20_10, r20_12, r20_13, r20_14, r20_15, r20_16, r20_17, r20_18, r20_19, r20_21, r20_22, r20_20, r20_23, r20_24, r20_25, r20_26, r20_27, r20_28, r20_11, r20_29, c20, F20, l20_2, q14, q12, q1', q15, g, w1, w2, w3, w4, w5, d1, d2, v1, hbb, hcc, lenO, Int.toNat_natCast, Nat.mul_one, h_, go_sem, Int.reduceTMod, Int.reduceTDiv, Int.reduceDiv, Int.reduceMod, Int.reduceAdd, Int.reduceSub, Int.reduceMul, Int.reduceNeg, Int.reducePow, Int.reduceEq, ↓reduceIte, Nat.reduceEqDiff, Nat.reduceAdd, Nat.reduceMul, Nat.reduceLeDiff, Nat.reduceSub, Nat.reduceLT, Int.reduceToNat, Int.reduceLT, Int.reduceLE, reduceCtorEq]))
        refine done _ ?_ ?_ ?_ ?_ ?_ ?_ ?_ ?_
        · simp only [q0, go_sem, Int.reduceTMod, Int.reduceTDiv, Int.reduceDiv, Int.reduceMod, Int.reduceAdd, Int.reduceSub, Int.reduceMul, Int.reduceNeg, Int.reducePow, Int.reduceEq, ↓reduceIte, Nat.reduceEqDiff, Nat.reduceAdd, Nat.reduceMul, Nat.reduceLeDiff, Nat.reduceSub, Nat.reduceLT, Int.reduceToNat, Int.reduceLT, Int.reduceLE, reduceCtorEq]
        · simp only [q1, go_sem, Int.reduceTMod, Int.reduceTDiv, Int.reduceDiv, Int.reduceMod, Int.reduceAdd, Int.reduceSub, Int.reduceMul, Int.reduceNeg, Int.reducePow, Int.reduceEq, ↓reduceIte, Nat.reduceEqDiff, Nat.reduceAdd, Nat.reduceMul, Nat.reduceLeDiff, Nat.reduceSub, Nat.reduceLT, Int.reduceToNat, Int.reduceLT, Int.reduceLE, reduceCtorEq]
        · simp only [q3, go_sem, Int.reduceTMod, Int.reduceTDiv, Int.reduceDiv, Int.reduceMod, Int.reduceAdd, Int.reduceSub, Int.reduceMul, Int.reduceNeg, Int.reducePow, Int.reduceEq, ↓reduceIte, Nat.reduceEqDiff, Nat.reduceAdd, Nat.reduceMul, Nat.reduceLeDiff, Nat.reduceSub, Nat.reduceLT, Int.reduceToNat, Int.reduceLT, Int.reduceLE, reduceCtorEq]
        · simp only [q10, go_sem, Int.reduceTMod, Int.reduceTDiv, Int.reduceDiv, Int.reduceMod, Int.reduceAdd, Int.reduceSub, Int.reduceMul, Int.reduceNeg, Int.reducePow, Int.reduceEq, ↓reduceIte, Nat.reduceEqDiff, Nat.reduceAdd, Nat.reduceMul, Nat.reduceLeDiff, Nat.reduceSub, Nat.reduceLT, Int.reduceToNat, Int.reduceLT, Int.reduceLE, reduceCtorEq]
        · simp only [q12, go_sem, Int.reduceTMod, Int.reduceTDiv, Int.reduceDiv, Int.reduceMod, Int.reduceAdd, Int.reduceSub, Int.reduceMul, Int.reduceNeg, Int.reducePow, Int.reduceEq, ↓reduceIte, Nat.reduceEqDiff, Nat.reduceAdd, Nat.reduceMul, Nat.reduceLeDiff, Nat.reduceSub, Nat.reduceLT, Int.reduceToNat, Int.reduceLT, Int.reduceLE, reduceCtorEq]
        · simp only [q13, go_sem, Int.reduceTMod, Int.reduceTDiv, Int.reduceDiv, Int.reduceMod, Int.reduceAdd, Int.reduceSub, Int.reduceMul, Int.reduceNeg, Int.reducePow, Int.reduceEq, ↓reduceIte, Nat.reduceEqDiff, Nat.reduceAdd, Nat.reduceMul, Nat.reduceLeDiff, Nat.reduceSub, Nat.reduceLT, Int.reduceToNat, Int.reduceLT, Int.reduceLE, reduceCtorEq]
        · simp only [go_sem, Int.reduceTMod, Int.reduceTDiv, Int.reduceDiv, Int.reduceMod, Int.reduceAdd, Int.reduceSub, Int.reduceMul, Int.reduceNeg, Int.reducePow, Int.reduceEq, ↓reduceIte, Nat.reduceEqDiff, Nat.reduceAdd, Nat.reduceMul, Nat.reduceLeDiff, Nat.reduceSub, Nat.reduceLT, Int.reduceToNat, Int.reduceLT, Int.reduceLE, reduceCtorEq]
        · simp only [go_sem, Int.reduceTMod, Int.reduceTDiv, Int.reduceDiv, Int.reduceMod, Int.reduceAdd, Int.reduceSub, Int.reduceMul, Int.reduceNeg, Int.reducePow, Int.reduceEq, ↓reduceIte, Nat.reduceEqDiff, Nat.reduceAdd, Nat.reduceMul, Nat.reduceLeDiff, Nat.reduceSub, Nat.reduceLT, Int.reduceToNat, Int.reduceLT, Int.reduceLE, reduceCtorEq]
  · rw [if_neg g] at hgo
    try simp only [r20_0, r20_1, r20_2, r20_3, r20_5, r20_4, r20_6, r20_7, r20_8, r20_9, r20_10, r20_12, r20_13, r20_14, r20_15, r20_16, r20_17, r20_18, r20_19, r20_21, r20_22, r20_20, r20_23, r20_24, r20_25, r20_26, r20_27, r20_28, r20_11, r20_29, c20, F20, l20_2, q14, q12, g, go_sem, Int.reduceTMod, Int.reduceTDiv, Int.reduceDiv, Int.reduceMod, Int.reduceAdd, Int.reduceSub, Int.reduceMul, Int.reduceNeg, Int.reducePow, Int.reduceEq, ↓reduceIte, Nat.reduceEqDiff, Nat.reduceAdd, Nat.reduceMul, Nat.reduceLeDiff, Nat.reduceSub, Nat.reduceLT, Int.reduceToNat, Int.reduceLT, Int.reduceLE, reduceCtorEq]
    repeat' ((first | refine FK_split (fun h_ => ?_) (fun h_ => ?_) | refine GK_split (fun h_ => ?_) (fun h_ => ?_) | refine ite_both (fun h_ => ?_) (fun h_ => ?_)) <;> (try simp only [decide_eq_true_eq, decide_eq_false_iff_not, Bool.not_true, Bool.not_false, Bool.not_eq_true', Bool.not_eq_false', Bool.not_eq_eq_eq_not, Decidable.not_not] at h_) <;> (try simp only [r20_0, r20_1, r20_2, r20_3, r20_5, r20_4, r20_6, r20_7, r20_8, r20_9, r20_10, r20_12, r20_13, r20_14, r20_15, r20_16, r20_17, r20_18, r20_19, r20_21, r20_22, r20_20, r20_23, r20_24, r20_25, r20_26, r20_27, r20_28, r20_11, r20_29, c20, F20, l20_2, q14, q12, g, h_, go_sem, Int.reduceTMod, Int.reduceTDiv, Int.reduceDiv, Int.reduceMod, Int.reduceAdd, Int.reduceSub, Int.reduceMul, Int.reduceNeg, Int.reducePow, Int.reduceEq, ↓reduceIte, Nat.reduceEqDiff, Nat.reduceAdd, Nat.reduceMul, Nat.reduceLeDiff, Nat.reduceSub, Nat.reduceLT, Int.reduceToNat, Int.reduceLT, Int.reduceLE, reduceCtorEq]))
    exact hK out ro _ hgo.symm (by simp only [q13, go_sem, Int.reduceTMod, Int.reduceTDiv, Int.reduceDiv, Int.reduceMod, Int.reduceAdd, Int.reduceSub, Int.reduceMul, Int.reduceNeg, Int.reducePow, Int.reduceEq, ↓reduceIte, Nat.reduceEqDiff, Nat.reduceAdd, Nat.reduceMul, Nat.reduceLeDiff, Nat.reduceSub, Nat.reduceLT, Int.reduceToNat, Int.reduceLT, Int.reduceLE, reduceCtorEq]) hO qn

/- The reference's pieces: the whole function. Conditions: those that each theorem names. -/
open Go Go.Proofs
set_option linter.unusedSimpArgs false
set_option linter.unusedVariables false

/-- What the reference's Dash hands back. -/
def RDashQ (way : List Pt) (pat : List Int) (ph : Int) (n : Nat) (r' : Reg) (m' : Mem) (n' : Nat) : Prop :=
  (dashL pat ph way = none → r' = .tup [rnil, RB false]) ∧ ∀ ls, dashL pat ph way = some ls → ∃ x p, r' = .tup [x, RB true] ∧ n ≤ p + 1 ∧ OPs p p p m' n' x ls
set_option maxHeartbeats 2000000 in
theorem w_rDash {way : List Pt} (hW : WayW way) {pat : List Int} (hP : PatI pat) {ph : Int} (hph : 0 ≤ ph ∧ ph ≤ 8388608) {wr pr : Reg} {m : Mem} {n : Nat} (hw : RPt m n wr way) (hpr : RIn m n pr pat) :
    Fn TA 20 [wr, pr, RI ph, RI 4096] m n (fun r' m' n' => n ≤ n' ∧ RDashQ way pat ph n r' m' n') := by
  obtain ⟨R, hR⟩ : ∃ R, R = refGo pat way ((allD way + ph).toNat + 1) 0 (-ph) [] := ⟨_, rfl⟩
  have hdl : dashL pat ph way = R := by rw [dashL_ref hP hW.toWayI hph.1, ← hR]
  unfold RDashQ
  rw [hdl]
  have h2 := hW.two
  have hsm := hW.sm
  have hall := Dw_bd hW (way.length - 1) (by omega)
  refine Fn_ofK (fn := F20) rfl (by simp [F20]) ?_
  try simp only [r20_0, r20_1, r20_2, r20_3, r20_5, r20_4, r20_6, r20_7, r20_8, r20_9, r20_10, r20_12, r20_13, r20_14, r20_15, r20_16, r20_17, r20_18, r20_19, r20_21, r20_22, r20_20, r20_23, r20_24, r20_25, r20_26, r20_27, r20_28, r20_11, r20_29, c20, F20, go_sem, Int.reduceTMod, Int.reduceTDiv, Int.reduceDiv, Int.reduceMod, Int.reduceAdd, Int.reduceSub, Int.reduceMul, Int.reduceNeg, Int.reducePow, Int.reduceEq, ↓reduceIte, Nat.reduceEqDiff, Nat.reduceAdd, Nat.reduceMul, Nat.reduceLeDiff, Nat.reduceSub, Nat.reduceLT, Int.reduceToNat, Int.reduceLT, Int.reduceLE, reduceCtorEq]
  repeat' ((first | refine FK_split (fun h_ => ?_) (fun h_ => ?_) | refine GK_split (fun h_ => ?_) (fun h_ => ?_) | refine ite_both (fun h_ => ?_) (fun h_ => ?_)) <;> (try simp only [decide_eq_true_eq, decide_eq_false_iff_not, Bool.not_true, Bool.not_false, Bool.not_eq_true', Bool.not_eq_false', Bool.not_eq_eq_eq_not, Decidable.not_not] at h_) <;> (try simp only [r20_0, r20_1, r20_2, r20_3, r20_5, r20_4, r20_6, r20_7, r20_8, r20_9, r20_10, r20_12, r20_13, r20_14, r20_15, r20_16, r20_17, r20_18, r20_19, r20_21, r20_22, r20_20, r20_23, r20_24, r20_25, r20_26, r20_27, r20_28, r20_11, r20_29, c20, F20, h_, go_sem, Int.reduceTMod, Int.reduceTDiv, Int.reduceDiv, Int.reduceMod, Int.reduceAdd, Int.reduceSub, Int.reduceMul, Int.reduceNeg, Int.reducePow, Int.reduceEq, ↓reduceIte, Nat.reduceEqDiff, Nat.reduceAdd, Nat.reduceMul, Nat.reduceLeDiff, Nat.reduceSub, Nat.reduceLT, Int.reduceToNat, Int.reduceLT, Int.reduceLE, reduceCtorEq]))
  refine ends_loop hW (wr := wr) (pr := pr) (ph := ph) (mo := 4096) hw ?_ ?_ ?_ ?_ ?_ ?_ (fun s c s10 sO s0 s1 s2 s3 sm sn => ?_)
  · simp only [go_sem, Int.reduceTMod, Int.reduceTDiv, Int.reduceDiv, Int.reduceMod, Int.reduceAdd, Int.reduceSub, Int.reduceMul, Int.reduceNeg, Int.reducePow, Int.reduceEq, ↓reduceIte, Nat.reduceEqDiff, Nat.reduceAdd, Nat.reduceMul, Nat.reduceLeDiff, Nat.reduceSub, Nat.reduceLT, Int.reduceToNat, Int.reduceLT, Int.reduceLE, reduceCtorEq]
  · simp only [go_sem, Int.reduceTMod, Int.reduceTDiv, Int.reduceDiv, Int.reduceMod, Int.reduceAdd, Int.reduceSub, Int.reduceMul, Int.reduceNeg, Int.reducePow, Int.reduceEq, ↓reduceIte, Nat.reduceEqDiff, Nat.reduceAdd, Nat.reduceMul, Nat.reduceLeDiff, Nat.reduceSub, Nat.reduceLT, Int.reduceToNat, Int.reduceLT, Int.reduceLE, reduceCtorEq]
  · simp only [go_sem, Int.reduceTMod, Int.reduceTDiv, Int.reduceDiv, Int.reduceMod, Int.reduceAdd, Int.reduceSub, Int.reduceMul, Int.reduceNeg, Int.reducePow, Int.reduceEq, ↓reduceIte, Nat.reduceEqDiff, Nat.reduceAdd, Nat.reduceMul, Nat.reduceLeDiff, Nat.reduceSub, Nat.reduceLT, Int.reduceToNat, Int.reduceLT, Int.reduceLE, reduceCtorEq]
  · simp only [go_sem, Int.reduceTMod, Int.reduceTDiv, Int.reduceDiv, Int.reduceMod, Int.reduceAdd, Int.reduceSub, Int.reduceMul, Int.reduceNeg, Int.reducePow, Int.reduceEq, ↓reduceIte, Nat.reduceEqDiff, Nat.reduceAdd, Nat.reduceMul, Nat.reduceLeDiff, Nat.reduceSub, Nat.reduceLT, Int.reduceToNat, Int.reduceLT, Int.reduceLE, reduceCtorEq]
  · simp only [go_sem, Int.reduceTMod, Int.reduceTDiv, Int.reduceDiv, Int.reduceMod, Int.reduceAdd, Int.reduceSub, Int.reduceMul, Int.reduceNeg, Int.reducePow, Int.reduceEq, ↓reduceIte, Nat.reduceEqDiff, Nat.reduceAdd, Nat.reduceMul, Nat.reduceLeDiff, Nat.reduceSub, Nat.reduceLT, Int.reduceToNat, Int.reduceLT, Int.reduceLE, reduceCtorEq]
  · simp only [go_sem, Int.reduceTMod, Int.reduceTDiv, Int.reduceDiv, Int.reduceMod, Int.reduceAdd, Int.reduceSub, Int.reduceMul, Int.reduceNeg, Int.reducePow, Int.reduceEq, ↓reduceIte, Nat.reduceEqDiff, Nat.reduceAdd, Nat.reduceMul, Nat.reduceLeDiff, Nat.reduceSub, Nat.reduceLT, Int.reduceToNat, Int.reduceLT, Int.reduceLE, reduceCtorEq]
  obtain ⟨e, M, N⟩ := s
  simp only at s10 sO s0 s1 s2 s3 sm sn
  have hw1 : RPt M N wr way := hw.keep (by omega) sm
  have hp1 : RIn M N pr pat := hpr.keep (by omega) sm
  have he1 : RIn M N (.one c) (endsN way way.length) := sO.rl ci1
  have hel := endsN_len way way.length
  obtain ⟨id, off, cap, bb, hr1, hid, hbb, hcc⟩ := RL.int he1 (endsN_at (show way.length - 1 < way.length by omega))
  rw [hel] at hr1
  simp only [Reg.one.injEq] at hr1
  have s10' := s10
  rw [hr1] at s10'
  have c1 : IntKind.i64.wrap ((way.length : Int) - 1) = ((way.length - 1 : Nat) : Int) := (wr_eq (by omega) (by omega)).trans (by omega)
  have c2 : (0 ≤ ((way.length - 1 : Nat) : Int)) = True := eq_true (by omega)
  have c3 : (((way.length - 1 : Nat) : Int) < (way.length : Int)) = True := eq_true (by omega)
  have c4 : IntKind.i64.wrap (0 - ph) = -ph := (wr_eq (by omega) (by omega)).trans (by omega)
  have c5 : IntKind.i64.wrap (-ph) = -ph := wr_eq (by omega) (by omega)
  rw [show Dw way (way.length - 1) = allD way from rfl] at hcc
  try simp only [r20_0, r20_1, r20_2, r20_3, r20_5, r20_4, r20_6, r20_7, r20_8, r20_9, r20_10, r20_12, r20_13, r20_14, r20_15, r20_16, r20_17, r20_18, r20_19, r20_21, r20_22, r20_20, r20_23, r20_24, r20_25, r20_26, r20_27, r20_28, r20_11, r20_29, c20, F20, s10', s2, c1, c2, c3, c4, c5, hbb, hcc, lenO, Int.toNat_natCast, Nat.mul_one, go_sem, Int.reduceTMod, Int.reduceTDiv, Int.reduceDiv, Int.reduceMod, Int.reduceAdd, Int.reduceSub, Int.reduceMul, Int.reduceNeg, Int.reducePow, Int.reduceEq, ↓reduceIte, Nat.reduceEqDiff, Nat.reduceAdd, Nat.reduceMul, Nat.reduceLeDiff, Nat.reduceSub, Nat.reduceLT, Int.reduceToNat, Int.reduceLT, Int.reduceLE, reduceCtorEq]
  repeat' ((first | refine FK_split (fun h_ => ?_) (fun h_ => ?_) | refine GK_split (fun h_ => ?_) (fun h_ => ?_) | refine ite_both (fun h_ => ?_) (fun h_ => ?_)) <;> (try simp only [decide_eq_true_eq, decide_eq_false_iff_not, Bool.not_true, Bool.not_false, Bool.not_eq_true', Bool.not_eq_false', Bool.not_eq_eq_eq_not, Decidable.not_not] at h_) <;> (try simp only [r20_0, r20_1, r20_2, r20_3, r20_5, r20_4, r20_6, r20_7, r20_8, r20_9, r20_10, r20_12, r20_13, r20_14, r20_15, r20_16, r20_17, r20_18, r20_19, r20_21, r20_22, r20_20, r20_23, r20_24, r20_25, r20_26, r20_27, r20_28, r20_11, r20_29, c20, F20, s10', s2, c1, c2, c3, c4, c5, hbb, hcc, lenO, Int.toNat_natCast, Nat.mul_one, h_, go_sem, Int.reduceTMod, Int.reduceTDiv, Int.reduceDiv, Int.reduceMod, Int.reduceAdd, Int.reduceSub, Int.reduceMul, Int.reduceNeg, Int.reducePow, Int.reduceEq, ↓reduceIte, Nat.reduceEqDiff, Nat.reduceAdd, Nat.reduceMul, Nat.reduceLeDiff, Nat.reduceSub, Nat.reduceLT, Int.reduceToNat, Int.reduceLT, Int.reduceLE, reduceCtorEq]))
  refine rmain_loop hW hP hph (p := N - 1) (by omega) hw1 he1 hp1 (fun i hi => by have := hw.lt hi; omega) (fun i hi => by have := he1.lt hi; omega) (fun i hi => by have := hpr.lt hi; omega) hR.symm ?_ ?_ ?_ ?_ ?_ ?_ ?_ ?_ ?_ ?_
  · simp only [s0, go_sem, Int.reduceTMod, Int.reduceTDiv, Int.reduceDiv, Int.reduceMod, Int.reduceAdd, Int.reduceSub, Int.reduceMul, Int.reduceNeg, Int.reducePow, Int.reduceEq, ↓reduceIte, Nat.reduceEqDiff, Nat.reduceAdd, Nat.reduceMul, Nat.reduceLeDiff, Nat.reduceSub, Nat.reduceLT, Int.reduceToNat, Int.reduceLT, Int.reduceLE, reduceCtorEq]
  · simp only [s1, go_sem, Int.reduceTMod, Int.reduceTDiv, Int.reduceDiv, Int.reduceMod, Int.reduceAdd, Int.reduceSub, Int.reduceMul, Int.reduceNeg, Int.reducePow, Int.reduceEq, ↓reduceIte, Nat.reduceEqDiff, Nat.reduceAdd, Nat.reduceMul, Nat.reduceLeDiff, Nat.reduceSub, Nat.reduceLT, Int.reduceToNat, Int.reduceLT, Int.reduceLE, reduceCtorEq]
  · simp only [s3, go_sem, Int.reduceTMod, Int.reduceTDiv, Int.reduceDiv, Int.reduceMod, Int.reduceAdd, Int.reduceSub, Int.reduceMul, Int.reduceNeg, Int.reducePow, Int.reduceEq, ↓reduceIte, Nat.reduceEqDiff, Nat.reduceAdd, Nat.reduceMul, Nat.reduceLeDiff, Nat.reduceSub, Nat.reduceLT, Int.reduceToNat, Int.reduceLT, Int.reduceLE, reduceCtorEq]
  · simp only [s10, go_sem, Int.reduceTMod, Int.reduceTDiv, Int.reduceDiv, Int.reduceMod, Int.reduceAdd, Int.reduceSub, Int.reduceMul, Int.reduceNeg, Int.reducePow, Int.reduceEq, ↓reduceIte, Nat.reduceEqDiff, Nat.reduceAdd, Nat.reduceMul, Nat.reduceLeDiff, Nat.reduceSub, Nat.reduceLT, Int.reduceToNat, Int.reduceLT, Int.reduceLE, reduceCtorEq]
  · simp only [go_sem, Int.reduceTMod, Int.reduceTDiv, Int.reduceDiv, Int.reduceMod, Int.reduceAdd, Int.reduceSub, Int.reduceMul, Int.reduceNeg, Int.reducePow, Int.reduceEq, ↓reduceIte, Nat.reduceEqDiff, Nat.reduceAdd, Nat.reduceMul, Nat.reduceLeDiff, Nat.reduceSub, Nat.reduceLT, Int.reduceToNat, Int.reduceLT, Int.reduceLE, reduceCtorEq]
  · simp only [go_sem, Int.reduceTMod, Int.reduceTDiv, Int.reduceDiv, Int.reduceMod, Int.reduceAdd, Int.reduceSub, Int.reduceMul, Int.reduceNeg, Int.reducePow, Int.reduceEq, ↓reduceIte, Nat.reduceEqDiff, Nat.reduceAdd, Nat.reduceMul, Nat.reduceLeDiff, Nat.reduceSub, Nat.reduceLT, Int.reduceToNat, Int.reduceLT, Int.reduceLE, reduceCtorEq]
  · simp only [go_sem, Int.reduceTMod, Int.reduceTDiv, Int.reduceDiv, Int.reduceMod, Int.reduceAdd, Int.reduceSub, Int.reduceMul, Int.reduceNeg, Int.reducePow, Int.reduceEq, ↓reduceIte, Nat.reduceEqDiff, Nat.reduceAdd, Nat.reduceMul, Nat.reduceLeDiff, Nat.reduceSub, Nat.reduceLT, Int.reduceToNat, Int.reduceLT, Int.reduceLE, reduceCtorEq]
  · simp only [go_sem, Int.reduceTMod, Int.reduceTDiv, Int.reduceDiv, Int.reduceMod, Int.reduceAdd, Int.reduceSub, Int.reduceMul, Int.reduceNeg, Int.reducePow, Int.reduceEq, ↓reduceIte, Nat.reduceEqDiff, Nat.reduceAdd, Nat.reduceMul, Nat.reduceLeDiff, Nat.reduceSub, Nat.reduceLT, Int.reduceToNat, Int.reduceLT, Int.reduceLE, reduceCtorEq]
  · rintro hn0 ⟨e, M', N'⟩ q8 q9 qn
    simp only at q8 q9 qn
    try simp only [q8, q9, go_sem, Int.reduceTMod, Int.reduceTDiv, Int.reduceDiv, Int.reduceMod, Int.reduceAdd, Int.reduceSub, Int.reduceMul, Int.reduceNeg, Int.reducePow, Int.reduceEq, ↓reduceIte, Nat.reduceEqDiff, Nat.reduceAdd, Nat.reduceMul, Nat.reduceLeDiff, Nat.reduceSub, Nat.reduceLT, Int.reduceToNat, Int.reduceLT, Int.reduceLE, reduceCtorEq]
    repeat' ((first | refine FK_split (fun h_ => ?_) (fun h_ => ?_) | refine GK_split (fun h_ => ?_) (fun h_ => ?_) | refine ite_both (fun h_ => ?_) (fun h_ => ?_)) <;> (try simp only [decide_eq_true_eq, decide_eq_false_iff_not, Bool.not_true, Bool.not_false, Bool.not_eq_true', Bool.not_eq_false', Bool.not_eq_eq_eq_not, Decidable.not_not] at h_) <;> (try simp only [q8, q9, h_, go_sem, Int.reduceTMod, Int.reduceTDiv, Int.reduceDiv, Int.reduceMod, Int.reduceAdd, Int.reduceSub, Int.reduceMul, Int.reduceNeg, Int.reducePow, Int.reduceEq, ↓reduceIte, Nat.reduceEqDiff, Nat.reduceAdd, Nat.reduceMul, Nat.reduceLeDiff, Nat.reduceSub, Nat.reduceLT, Int.reduceToNat, Int.reduceLT, Int.reduceLE, reduceCtorEq]))
    refine ⟨by omega, fun _ => trivial, fun ls h => ?_⟩
    rw [hn0] at h
    cases h
  · rintro out ro ⟨e, M', N'⟩ hs q13 qO qn
    simp only at q13 qO qn
    try simp only [r20_0, r20_1, r20_2, r20_3, r20_5, r20_4, r20_6, r20_7, r20_8, r20_9, r20_10, r20_12, r20_13, r20_14, r20_15, r20_16, r20_17, r20_18, r20_19, r20_21, r20_22, r20_20, r20_23, r20_24, r20_25, r20_26, r20_27, r20_28, r20_11, r20_29, c20, F20, q13, go_sem, Int.reduceTMod, Int.reduceTDiv, Int.reduceDiv, Int.reduceMod, Int.reduceAdd, Int.reduceSub, Int.reduceMul, Int.reduceNeg, Int.reducePow, Int.reduceEq, ↓reduceIte, Nat.reduceEqDiff, Nat.reduceAdd, Nat.reduceMul, Nat.reduceLeDiff, Nat.reduceSub, Nat.reduceLT, Int.reduceToNat, Int.reduceLT, Int.reduceLE, reduceCtorEq]
    repeat' ((first | refine FK_split (fun h_ => ?_) (fun h_ => ?_) | refine GK_split (fun h_ => ?_) (fun h_ => ?_) | refine ite_both (fun h_ => ?_) (fun h_ => ?_)) <;> (try simp only [decide_eq_true_eq, decide_eq_false_iff_not, Bool.not_true, Bool.not_false, Bool.not_eq_true', Bool.not_eq_false', Bool.not_eq_eq_eq_not, Decidable.not_not] at h_) <;> (try simp only [r20_0, r20_1, r20_2, r20_3, r20_5, r20_4, r20_6, r20_7, r20_8, r20_9, r20_10, r20_12, r20_13, r20_14, r20_15, r20_16, r20_17, r20_18, r20_19, r20_21, r20_22, r20_20, r20_23, r20_24, r20_25, r20_26, r20_27, r20_28, r20_11, r20_29, c20, F20, q13, h_, go_sem, Int.reduceTMod, Int.reduceTDiv, Int.reduceDiv, Int.reduceMod, Int.reduceAdd, Int.reduceSub, Int.reduceMul, Int.reduceNeg, Int.reducePow, Int.reduceEq, ↓reduceIte, Nat.reduceEqDiff, Nat.reduceAdd, Nat.reduceMul, Nat.reduceLeDiff, Nat.reduceSub, Nat.reduceLT, Int.reduceToNat, Int.reduceLT, Int.reduceLE, reduceCtorEq]))
    refine ⟨by omega, fun h => ?_, fun ls h => ⟨_, N - 1, rfl, by omega, ?_⟩⟩
    · rw [hs] at h
      cases h
    · rw [hs] at h
      cases h
      exact qO

/- What Dash hands back, case by case. Conditions: those that each theorem names. -/
open Go Go.Proofs
set_option linter.unusedSimpArgs false
set_option linter.unusedVariables false

/-- A row of open subpaths, read. -/
def RowF (base : Nat) (m : Mem) (n : Nat) (x : Reg) (ls : List (List Pt)) : Prop :=
  (x = rnil ∧ ls = []) ∨ ∃ id cap b, x = .one (.sl id 0 ls.length cap 2) ∧ base ≤ id ∧ id < n ∧ m id = some b ∧ ∀ (i : Nat) (l : List Pt), ls[i]? = some l → ∃ c, b.cells[i * 2]? = some c ∧ b.cells[i * 2 + 1]? = some (.sc (.bool false)) ∧ RPt m n (.one c) l ∧ ∀ j, sid (.one c) = some j → base ≤ j
theorem RowF.len {base : Nat} {m : Mem} {n : Nat} {x : Reg} {ls : List (List Pt)} (h : RowF base m n x ls) : lenO x = some (ls.length : Int) := by
  rcases h with ⟨rfl, rfl⟩ | ⟨id, cap, b, rfl, _⟩ <;> rfl
theorem RowF.keep {base : Nat} {m m' : Mem} {n n' : Nat} {x : Reg} {ls : List (List Pt)} (h : RowF base m n x ls) (hn : n ≤ n') (hm : ∀ id, base ≤ id → id < n → m' id = m id) : RowF base m' n' x ls := by
  rcases h with h | ⟨id, cap, b, e1, e2, e3, e4, e5⟩
  · exact Or.inl h
  · refine Or.inr ⟨id, cap, b, e1, e2, by omega, by rw [hm id e2 e3]; exact e4, fun i l hi => ?_⟩
    obtain ⟨c, k1, k2, k3, k4⟩ := e5 i l hi
    exact ⟨c, k1, k2, k3.keep' hn (fun j hj => hm j (k4 j hj) (k3.lt hj)), k4⟩
theorem OSb.rowF {A : Nat → Prop} {pid base : Nat} {m : Mem} {n : Nat} {oc : Cell} {ls : List (List Pt)} (h : OSb A pid m n oc ls) (hb : base ≤ pid) : RowF base m n (.one oc) ls := by
  obtain ⟨cs, h1, h2, h3, h4⟩ := h
  rcases h1 with ⟨e1, e2⟩ | ⟨id, e1, e2, e3, e4⟩
  · subst e2
    exact Or.inl ⟨e1, List.length_eq_zero_iff.1 (by simpa using h3.symm)⟩
  · refine Or.inr ⟨id, none, _, by rw [← h3]; exact e1, by omega, e3, e4, fun i l hi => ?_⟩
    obtain ⟨c, k1, k2, k3⟩ := h4 i l hi
    have hrl : RL encS 2 m n (.one oc) cs := OL.rl sc2 (Or.inr ⟨id, e1, e2, e3, e4⟩)
    obtain ⟨id', off, cap', q1, q2, q3⟩ := hrl.at sc2 k1
    rw [e1] at q1
    simp only [Reg.one.injEq, Cell.sl.injEq, true_and, and_true] at q1
    obtain ⟨rfl, rfl, rfl⟩ := q1
    obtain ⟨b, q4, q5⟩ := rd_cell q3 (a := 0) (c := c) rfl
    obtain ⟨b', q6, q7⟩ := rd_cell q3 (a := 1) (c := .sc (.bool false)) rfl
    rw [e4] at q4 q6
    cases q4
    cases q6
    rw [Nat.zero_add, Nat.add_zero] at q5
    rw [Nat.zero_add] at q7
    exact ⟨c, q5, q7, k2.rl, fun j hj => by have := (k2.lt hj).1; omega⟩
/-- What Dash hands back. -/
theorem dash_cases {l : List Pt} {c : Bool} {pat : List Int} {ph : Int} {n : Nat} {x : Reg} {k : Int} {m' : Mem} {n' : Nat} (h : DashQ l (wayL l c) c pat ph n x k m' n') (hl : l.length ≤ 900000) :
    ((rightB pat ph = false ∨ l.all inP = false) ∧ x = rnil ∧ k = 30) ∨
    (rightB pat ph = true ∧ l.all inP = true ∧ ((anyLg (wayL l c) (wayL l c).length = true ∧ x = rnil ∧ k = 10) ∨
      (anyLg (wayL l c) (wayL l c).length = false ∧ ((l = [] ∧ x = rnil ∧ k = 0) ∨ (l ≠ [] ∧ wayL l c ≠ [] ∧
        ((pat = [] ∧ k = 0 ∧ ∃ id cl, x = .one (.sl id 0 1 (some 1) 2) ∧ n ≤ id ∧ id < n' ∧ m' id = some ⟨[cl, .sc (.bool c)], true⟩ ∧ RPt m' n' (.one cl) l ∧ ∀ j, sid (.one cl) = some j → n ≤ j) ∨
         (pat ≠ [] ∧ PatI pat ∧ (0 ≤ ph ∧ ph ≤ 8388608) ∧ ((dashL pat ph (wayL l c) = none ∧ x = rnil ∧ k = 36) ∨
           ∃ ls, dashL pat ph (wayL l c) = some ls ∧ k = 0 ∧ RowF n m' n' x ls ∧ ls.length ≤ 4096 ∧ ∀ u ∈ ls, u.length < 4294967296)))))))) := by
  cases hr : rightB pat ph
  · exact Or.inl ⟨Or.inl rfl, h.bad (Or.inl hr)⟩
  · cases hi : l.all inP
    · exact Or.inl ⟨Or.inr rfl, h.bad (Or.inr hi)⟩
    · refine Or.inr ⟨rfl, rfl, ?_⟩
      cases hg : anyLg (wayL l c) (wayL l c).length
      · refine Or.inr ⟨rfl, ?_⟩
        by_cases hw : wayL l c = []
        · have hle : l = [] := by
            cases l with
            | nil => rfl
            | cons p t => obtain ⟨t', ht'⟩ := way_head (p := p) (l := t) (c := c); rw [ht'] at hw; cases hw
          exact Or.inl ⟨hle, h.none hr hi hg hw⟩
        · have hlne : l ≠ [] := fun e => hw (by rw [e]; unfold wayL; split <;> rfl)
          refine Or.inr ⟨hlne, hw, ?_⟩
          by_cases hpe : pat = []
          · exact Or.inl ⟨hpe, h.whole hr hi hg hw hpe⟩
          · obtain ⟨hP, hp0, hp1⟩ := right_pat hr hpe
            refine Or.inr ⟨hpe, hP, ⟨hp0, hp1⟩, ?_⟩
            have hwm := way_len l c
            cases hd : dashL pat ph (wayL l c) with
            | none => exact Or.inl ⟨rfl, h.many hr hi hg hw hpe hd⟩
            | some ls =>
              obtain ⟨hk, oc, pid, rfl, q1, q2⟩ := h.some hr hi hg hw hpe ls hd
              have hline : ∀ i a b, (wayL l c)[i]? = some a → (wayL l c)[i + 1]? = some b → 0 ≤ lenQ a b ∧ (∀ t, 0 ≤ t → t ≤ lenQ a b → 0 < lenQ a b → (fun _ : Pt => True) (placeP a.x a.y b.x b.y t (lenQ a b))) ∧ (fun _ : Pt => True) b := fun i a b ha hb =>
                ⟨(lenQ_bd (lg_at hg ha hb)).1, fun _ _ _ _ => trivial, trivial⟩
              obtain ⟨g1, g2, g3⟩ := dashL_J (P := fun _ => True) (J := GoodL fun _ => True) good_add good_new hP hp0 (by
                unfold pen0
                simp only
                split
                · intro u hu
                  rw [List.mem_map] at hu
                  obtain ⟨q, hq, rfl⟩ := hu
                  exact ⟨by simp, fun _ _ => trivial⟩
                · intro u hu; cases hu) hw hline hd
              exact Or.inr ⟨ls, rfl, hk, q2.rowF q1, g2, fun u hu => by rcases g3 u hu with q | q <;> omega⟩
      · exact Or.inl ⟨rfl, h.long hr hi hg⟩

/- Where a pattern draws. Conditions: those that each theorem names. -/
open Go Go.Proofs
set_option linter.unusedSimpArgs false
set_option linter.unusedVariables false

theorem mod_par {k d : Int} (hd : d % 2 = 0) (h0 : 0 < d) : (k % d) % 2 = k % 2 := by
  obtain ⟨e, he⟩ : ∃ e, d = 2 * e := ⟨d / 2, by omega⟩
  have hm := Int.mul_ediv_add_emod k d
  rw [he] at hm ⊢
  generalize k % (2 * e) = r at *
  generalize k / (2 * e) = q at *
  rw [Int.mul_assoc] at hm
  generalize e * q = z at *
  omega
theorem v_ldrawn {pc : Cell} {pat : List Int} {ph : Int} (m : Mem) (n : Nat) (hr : RIn m n (.one pc) pat) (hP : PatI pat) (hph : 0 ≤ ph ∧ ph ≤ 8388608) : callF TA 19 [.agg [pc, I ph]] m n = some (RB (decide ((phS pat ph).1 % 2 = 0))) := by
  refine callF_of (Fn_ofK (fn := F19) rfl (by simp [F19]) ?_)
  obtain ⟨R, hR⟩ : ∃ R, R = phS pat ph := ⟨_, rfl⟩
  rw [← hR]
  obtain ⟨M0, hM0⟩ : ∃ M0, M0 = upd m n (some ⟨[pc, I ph], true⟩) := ⟨_, rfl⟩
  have hb0 : M0 n = some ⟨[pc, I ph], true⟩ := by rw [hM0, upd_same]
  have hr0 : RIn M0 (n + 1) (.one pc) pat := hr.keep (by omega) (fun id hid => by rw [hM0, upd_ne _ _ (by omega)])
  have hpo := hP.po
  have hle := hP.le
  have hev := hP.ev
  try simp only [r19_0, r19_1, r19_2, r19_4, r19_5, r19_6, r19_7, r19_3, c19, F19, go_sem, Int.reduceTMod, Int.reduceTDiv, Int.reduceDiv, Int.reduceMod, Int.reduceAdd, Int.reduceSub, Int.reduceMul, Int.reduceNeg, Int.reducePow, Int.reduceEq, ↓reduceIte, Nat.reduceEqDiff, Nat.reduceAdd, Nat.reduceMul, Nat.reduceLeDiff, Nat.reduceSub, Nat.reduceLT, Int.reduceToNat, Int.reduceLT, Int.reduceLE, reduceCtorEq]
  repeat' ((first | refine FK_split (fun h_ => ?_) (fun h_ => ?_) | refine GK_split (fun h_ => ?_) (fun h_ => ?_) | refine ite_both (fun h_ => ?_) (fun h_ => ?_)) <;> (try simp only [decide_eq_true_eq, decide_eq_false_iff_not, Bool.not_true, Bool.not_false, Bool.not_eq_true', Bool.not_eq_false', Bool.not_eq_eq_eq_not, Decidable.not_not] at h_) <;> (try simp only [r19_0, r19_1, r19_2, r19_4, r19_5, r19_6, r19_7, r19_3, c19, F19, h_, go_sem, Int.reduceTMod, Int.reduceTDiv, Int.reduceDiv, Int.reduceMod, Int.reduceAdd, Int.reduceSub, Int.reduceMul, Int.reduceNeg, Int.reducePow, Int.reduceEq, ↓reduceIte, Nat.reduceEqDiff, Nat.reduceAdd, Nat.reduceMul, Nat.reduceLeDiff, Nat.reduceSub, Nat.reduceLT, Int.reduceToNat, Int.reduceLT, Int.reduceLE, reduceCtorEq]))
  rw [← hM0]
  refine XK_down (inv := fun d s => ∃ (t k : Int) (f : Nat), d = t.toNat ∧ (0 ≤ t ∧ 0 ≤ k ∧ k + t ≤ ph) ∧ t.toNat < f ∧ phGo pat f t (k % pat.length) = R ∧ s.e 3 = RI t ∧ s.e 4 = RI k ∧ s.e 1 = .one (.ptr n 0) ∧ s.m = M0 ∧ s.n = n + 1)
    (fun L _ d s hs next => ?_) ph.toNat _ ⟨ph, 0, ph.toNat + 1, rfl, ⟨hph.1, Int.le_refl _, by omega⟩, by omega, by rw [hR, Int.zero_emod]; rfl, ?_, ?_, ?_, rfl, rfl⟩
  · obtain ⟨e, M, N⟩ := s
    obtain ⟨t, k, f, hd, ⟨t0, k0, kt⟩, hf, hgo, q3, q4, q1, qm, qn⟩ := hs
    simp only at q3 q4 q1 qm qn
    subst qm
    subst qn
    obtain ⟨f', rfl⟩ : ∃ f', f = f' + 1 := ⟨f - 1, by omega⟩
    have hm0 := Int.emod_nonneg k (show (pat.length : Int) ≠ 0 by omega)
    have hm1 := Int.emod_lt_of_pos k (show 0 < (pat.length : Int) by omega)
    obtain ⟨x, x0, x1, x2, x3⟩ := hP.get hm0 hm1
    obtain ⟨id, off, cap, b, hpc, hid, hbb, hcc⟩ := RL.int hr0 x0
    simp only [Reg.one.injEq] at hpc
    rw [phGo, x1] at hgo
    have w1 : k.tmod (pat.length : Int) = k % pat.length := Int.tmod_eq_emod_of_nonneg k0
    have w2 : ((pat.length : Int) = 0) = False := eq_false (by omega)
    have w3 : k.tmod 2 = k % 2 := Int.tmod_eq_emod_of_nonneg k0
    have d1 : (0 ≤ k % (pat.length : Int)) = True := eq_true hm0
    have d2 : (k % (pat.length : Int) < (pat.length : Int)) = True := eq_true hm1
    have hb1 := hb0
    rw [hpc] at hb1
    have hl1 : lenO (.one (.sl id off pat.length cap 1)) = some (pat.length : Int) := rfl
    by_cases g : t < x
    · rw [if_pos g] at hgo
      have hpar : R.1 % 2 = k % 2 := by rw [← hgo]; exact mod_par (by omega) (by omega)
      rw [hpar]
      try simp only [r19_0, r19_1, r19_2, r19_4, r19_5, r19_6, r19_7, r19_3, c19, F19, l19_0, q3, q4, q1, hb1, rd_of hb1, hl1, w1, w2, w3, d1, d2, hbb, hcc, g, Nat.mul_one, go_sem, Int.reduceTMod, Int.reduceTDiv, Int.reduceDiv, Int.reduceMod, Int.reduceAdd, Int.reduceSub, Int.reduceMul, Int.reduceNeg, Int.reducePow, Int.reduceEq, ↓reduceIte, Nat.reduceEqDiff, Nat.reduceAdd, Nat.reduceMul, Nat.reduceLeDiff, Nat.reduceSub, Nat.reduceLT, Int.reduceToNat, Int.reduceLT, Int.reduceLE, reduceCtorEq]
      repeat' ((first | refine FK_split (fun h_ => ?_) (fun h_ => ?_) | refine GK_split (fun h_ => ?_) (fun h_ => ?_) | refine ite_both (fun h_ => ?_) (fun h_ => ?_)) <;> (try simp only [decide_eq_true_eq, decide_eq_false_iff_not, Bool.not_true, Bool.not_false, Bool.not_eq_true', Bool.not_eq_false', Bool.not_eq_eq_eq_not, Decidable.not_not] at h_) <;> (try simp only [r19_0, r19_1, r19_2, r19_4, r19_5, r19_6, r19_7, r19_3, c19, F19, l19_0, q3, q4, q1, hb1, rd_of hb1, hl1, w1, w2, w3, d1, d2, hbb, hcc, g, Nat.mul_one, h_, go_sem, Int.reduceTMod, Int.reduceTDiv, Int.reduceDiv, Int.reduceMod, Int.reduceAdd, Int.reduceSub, Int.reduceMul, Int.reduceNeg, Int.reducePow, Int.reduceEq, ↓reduceIte, Nat.reduceEqDiff, Nat.reduceAdd, Nat.reduceMul, Nat.reduceLeDiff, Nat.reduceSub, Nat.reduceLT, Int.reduceToNat, Int.reduceLT, Int.reduceLE, reduceCtorEq]))
    · rw [if_neg g] at hgo
      have w4 : IntKind.i64.wrap (t - x) = t - x := wr_eq (by omega) (by omega)
      have w5 : IntKind.i64.wrap (k + 1) = k + 1 := wr_eq (by omega) (by omega)
      rw [Int.emod_add_emod] at hgo
      have u1 : (t - x).toNat < d := by omega
      have u2 : (t - x).toNat < f' := by omega
      try simp only [r19_0, r19_1, r19_2, r19_4, r19_5, r19_6, r19_7, r19_3, c19, F19, l19_0, q3, q4, q1, hb1, rd_of hb1, hl1, w1, w2, w4, w5, d1, d2, hbb, hcc, g, Nat.mul_one, go_sem, Int.reduceTMod, Int.reduceTDiv, Int.reduceDiv, Int.reduceMod, Int.reduceAdd, Int.reduceSub, Int.reduceMul, Int.reduceNeg, Int.reducePow, Int.reduceEq, ↓reduceIte, Nat.reduceEqDiff, Nat.reduceAdd, Nat.reduceMul, Nat.reduceLeDiff, Nat.reduceSub, Nat.reduceLT, Int.reduceToNat, Int.reduceLT, Int.reduceLE, reduceCtorEq]
      repeat' ((first | refine FK_split (fun h_ => ?_) (fun h_ => ?_) | refine GK_split (fun h_ => ?_) (fun h_ => ?_) | refine ite_both (fun h_ => ?_) (fun h_ => ?_)) <;> (try simp only [decide_eq_true_eq, decide_eq_false_iff_not, Bool.not_true, Bool.not_false, Bool.not_eq_true', Bool.not_eq_false', Bool.not_eq_eq_eq_not, Decidable.not_not] at h_) <;> (try simp only [r19_0, r19_1, r19_2, r19_4, r19_5, r19_6, r19_7, r19_3, c19, F19, l19_0, q3, q4, q1, hb1, rd_of hb1, hl1, w1, w2, w4, w5, d1, d2, hbb, hcc, g, Nat.mul_one, h_, go_sem, Int.reduceTMod, Int.reduceTDiv, Int.reduceDiv, Int.reduceMod, Int.reduceAdd, Int.reduceSub, Int.reduceMul, Int.reduceNeg, Int.reducePow, Int.reduceEq, ↓reduceIte, Nat.reduceEqDiff, Nat.reduceAdd, Nat.reduceMul, Nat.reduceLeDiff, Nat.reduceSub, Nat.reduceLT, Int.reduceToNat, Int.reduceLT, Int.reduceLE, reduceCtorEq]))
      refine next (t - x).toNat _ u1 ⟨t - x, k + 1, f', rfl, ⟨by omega, by omega, by omega⟩, u2, hgo, ?_, ?_, ?_, rfl, rfl⟩
      · simp only [go_sem, Int.reduceTMod, Int.reduceTDiv, Int.reduceDiv, Int.reduceMod, Int.reduceAdd, Int.reduceSub, Int.reduceMul, Int.reduceNeg, Int.reducePow, Int.reduceEq, ↓reduceIte, Nat.reduceEqDiff, Nat.reduceAdd, Nat.reduceMul, Nat.reduceLeDiff, Nat.reduceSub, Nat.reduceLT, Int.reduceToNat, Int.reduceLT, Int.reduceLE, reduceCtorEq]
      · simp only [go_sem, Int.reduceTMod, Int.reduceTDiv, Int.reduceDiv, Int.reduceMod, Int.reduceAdd, Int.reduceSub, Int.reduceMul, Int.reduceNeg, Int.reducePow, Int.reduceEq, ↓reduceIte, Nat.reduceEqDiff, Nat.reduceAdd, Nat.reduceMul, Nat.reduceLeDiff, Nat.reduceSub, Nat.reduceLT, Int.reduceToNat, Int.reduceLT, Int.reduceLE, reduceCtorEq]
      · simp only [q1, go_sem, Int.reduceTMod, Int.reduceTDiv, Int.reduceDiv, Int.reduceMod, Int.reduceAdd, Int.reduceSub, Int.reduceMul, Int.reduceNeg, Int.reducePow, Int.reduceEq, ↓reduceIte, Nat.reduceEqDiff, Nat.reduceAdd, Nat.reduceMul, Nat.reduceLeDiff, Nat.reduceSub, Nat.reduceLT, Int.reduceToNat, Int.reduceLT, Int.reduceLE, reduceCtorEq]
  · simp only [go_sem, Int.reduceTMod, Int.reduceTDiv, Int.reduceDiv, Int.reduceMod, Int.reduceAdd, Int.reduceSub, Int.reduceMul, Int.reduceNeg, Int.reducePow, Int.reduceEq, ↓reduceIte, Nat.reduceEqDiff, Nat.reduceAdd, Nat.reduceMul, Nat.reduceLeDiff, Nat.reduceSub, Nat.reduceLT, Int.reduceToNat, Int.reduceLT, Int.reduceLE, reduceCtorEq]
  · simp only [go_sem, Int.reduceTMod, Int.reduceTDiv, Int.reduceDiv, Int.reduceMod, Int.reduceAdd, Int.reduceSub, Int.reduceMul, Int.reduceNeg, Int.reducePow, Int.reduceEq, ↓reduceIte, Nat.reduceEqDiff, Nat.reduceAdd, Nat.reduceMul, Nat.reduceLeDiff, Nat.reduceSub, Nat.reduceLT, Int.reduceToNat, Int.reduceLT, Int.reduceLE, reduceCtorEq]
  · simp only [go_sem, Int.reduceTMod, Int.reduceTDiv, Int.reduceDiv, Int.reduceMod, Int.reduceAdd, Int.reduceSub, Int.reduceMul, Int.reduceNeg, Int.reducePow, Int.reduceEq, ↓reduceIte, Nat.reduceEqDiff, Nat.reduceAdd, Nat.reduceMul, Nat.reduceLeDiff, Nat.reduceSub, Nat.reduceLT, Int.reduceToNat, Int.reduceLT, Int.reduceLE, reduceCtorEq]

/- The law DashPieces walked. Conditions: those that each theorem names. -/
open Go Go.Proofs
set_option linter.unusedSimpArgs false
set_option linter.unusedVariables false

theorem dash_one {pat : List Int} {ph : Int} {way : List Pt} (h : way.length = 1) : dashL pat ph way = some (if (phS pat ph).1 % 2 = 0 then [way] else []) := by
  obtain ⟨p, rfl⟩ : ∃ p, way = [p] := List.length_eq_one_iff.1 h
  unfold dashL
  show some (if (phS pat ph).1 % 2 = 0 then (List.take 1 [p]).map (fun p => [p]) else []) = _
  rfl
set_option maxHeartbeats 8000000 in
theorem law5 (c0 pc : Cell) (l : List Pt) (c : Bool) (pat : List Int) (ph : Int) (m : Mem) (n : Nat) (hr : RPt m n (.one c0) l) (hpr : RIn m n (.one pc) pat) : Fn TA 5 [.agg [c0, .sc (.bool c)], .agg [pc, I ph]] m n (fun r _ _ => r = RB true) := by
  refine Fn_ofK (fn := F5) rfl (by simp [F5]) ?_
  have hlen := hr.len
  have hplen := hpr.len
  by_cases g : 20 < (l.length : Int)
  · skip
    try simp only [r5_0, r5_1, r5_2, r5_3, r5_4, r5_5, r5_6, r5_7, r5_8, r5_9, r5_10, r5_11, r5_12, r5_13, r5_14, r5_15, r5_16, r5_17, r5_18, r5_19, r5_20, r5_21, r5_22, r5_23, r5_24, r5_25, r5_26, r5_27, r5_28, r5_29, r5_30, c5, F5, hlen, g, v_awake, go_sem, Int.reduceTMod, Int.reduceTDiv, Int.reduceDiv, Int.reduceMod, Int.reduceAdd, Int.reduceSub, Int.reduceMul, Int.reduceNeg, Int.reducePow, Int.reduceEq, ↓reduceIte, Nat.reduceEqDiff, Nat.reduceAdd, Nat.reduceMul, Nat.reduceLeDiff, Nat.reduceSub, Nat.reduceLT, Int.reduceToNat, Int.reduceLT, Int.reduceLE, reduceCtorEq]
    repeat' ((first | refine FK_split (fun h_ => ?_) (fun h_ => ?_) | refine GK_split (fun h_ => ?_) (fun h_ => ?_) | refine ite_both (fun h_ => ?_) (fun h_ => ?_)) <;> (try simp only [decide_eq_true_eq, decide_eq_false_iff_not, Bool.not_true, Bool.not_false, Bool.not_eq_true', Bool.not_eq_false', Bool.not_eq_eq_eq_not, Decidable.not_not] at h_) <;> (try simp only [r5_0, r5_1, r5_2, r5_3, r5_4, r5_5, r5_6, r5_7, r5_8, r5_9, r5_10, r5_11, r5_12, r5_13, r5_14, r5_15, r5_16, r5_17, r5_18, r5_19, r5_20, r5_21, r5_22, r5_23, r5_24, r5_25, r5_26, r5_27, r5_28, r5_29, r5_30, c5, F5, hlen, g, v_awake, h_, go_sem, Int.reduceTMod, Int.reduceTDiv, Int.reduceDiv, Int.reduceMod, Int.reduceAdd, Int.reduceSub, Int.reduceMul, Int.reduceNeg, Int.reducePow, Int.reduceEq, ↓reduceIte, Nat.reduceEqDiff, Nat.reduceAdd, Nat.reduceMul, Nat.reduceLeDiff, Nat.reduceSub, Nat.reduceLT, Int.reduceToNat, Int.reduceLT, Int.reduceLE, reduceCtorEq]))
  by_cases g2 : 20 < (pat.length : Int)
  · skip
    try simp only [r5_0, r5_1, r5_2, r5_3, r5_4, r5_5, r5_6, r5_7, r5_8, r5_9, r5_10, r5_11, r5_12, r5_13, r5_14, r5_15, r5_16, r5_17, r5_18, r5_19, r5_20, r5_21, r5_22, r5_23, r5_24, r5_25, r5_26, r5_27, r5_28, r5_29, r5_30, c5, F5, hlen, hplen, g, g2, v_awake, go_sem, Int.reduceTMod, Int.reduceTDiv, Int.reduceDiv, Int.reduceMod, Int.reduceAdd, Int.reduceSub, Int.reduceMul, Int.reduceNeg, Int.reducePow, Int.reduceEq, ↓reduceIte, Nat.reduceEqDiff, Nat.reduceAdd, Nat.reduceMul, Nat.reduceLeDiff, Nat.reduceSub, Nat.reduceLT, Int.reduceToNat, Int.reduceLT, Int.reduceLE, reduceCtorEq]
    repeat' ((first | refine FK_split (fun h_ => ?_) (fun h_ => ?_) | refine GK_split (fun h_ => ?_) (fun h_ => ?_) | refine ite_both (fun h_ => ?_) (fun h_ => ?_)) <;> (try simp only [decide_eq_true_eq, decide_eq_false_iff_not, Bool.not_true, Bool.not_false, Bool.not_eq_true', Bool.not_eq_false', Bool.not_eq_eq_eq_not, Decidable.not_not] at h_) <;> (try simp only [r5_0, r5_1, r5_2, r5_3, r5_4, r5_5, r5_6, r5_7, r5_8, r5_9, r5_10, r5_11, r5_12, r5_13, r5_14, r5_15, r5_16, r5_17, r5_18, r5_19, r5_20, r5_21, r5_22, r5_23, r5_24, r5_25, r5_26, r5_27, r5_28, r5_29, r5_30, c5, F5, hlen, hplen, g, g2, v_awake, h_, go_sem, Int.reduceTMod, Int.reduceTDiv, Int.reduceDiv, Int.reduceMod, Int.reduceAdd, Int.reduceSub, Int.reduceMul, Int.reduceNeg, Int.reducePow, Int.reduceEq, ↓reduceIte, Nat.reduceEqDiff, Nat.reduceAdd, Nat.reduceMul, Nat.reduceLeDiff, Nat.reduceSub, Nat.reduceLT, Int.reduceToNat, Int.reduceLT, Int.reduceLE, reduceCtorEq]))
  obtain ⟨M0, hM0⟩ : ∃ M0, M0 = upd (upd m n (some ⟨[c0, .sc (.bool c)], true⟩)) (n + 1) (some ⟨[pc, I ph], true⟩) := ⟨_, rfl⟩
  have hf0 : ∀ id, id < n → M0 id = m id := fun id hid => by rw [hM0, upd_ne _ _ (by omega), upd_ne _ _ (by omega)]
  have hb0 : M0 n = some ⟨[c0, .sc (.bool c)], true⟩ := by rw [hM0, upd_ne _ _ (by omega), upd_same]
  have hc0 : M0 (n + 1) = some ⟨[pc, I ph], true⟩ := by rw [hM0, upd_same]
  have hr0 : RPt M0 (n + 2) (.one c0) l := hr.keep (by omega) hf0
  have hp0 : RIn M0 (n + 2) (.one pc) pat := hpr.keep (by omega) hf0
  try simp only [r5_0, r5_1, r5_2, r5_3, r5_4, r5_5, r5_6, r5_7, r5_8, r5_9, r5_10, r5_11, r5_12, r5_13, r5_14, r5_15, r5_16, r5_17, r5_18, r5_19, r5_20, r5_21, r5_22, r5_23, r5_24, r5_25, r5_26, r5_27, r5_28, r5_29, r5_30, c5, F5, hlen, hplen, g, g2, go_sem, Int.reduceTMod, Int.reduceTDiv, Int.reduceDiv, Int.reduceMod, Int.reduceAdd, Int.reduceSub, Int.reduceMul, Int.reduceNeg, Int.reducePow, Int.reduceEq, ↓reduceIte, Nat.reduceEqDiff, Nat.reduceAdd, Nat.reduceMul, Nat.reduceLeDiff, Nat.reduceSub, Nat.reduceLT, Int.reduceToNat, Int.reduceLT, Int.reduceLE, reduceCtorEq]
  repeat' ((first | refine FK_split (fun h_ => ?_) (fun h_ => ?_) | refine GK_split (fun h_ => ?_) (fun h_ => ?_) | refine ite_both (fun h_ => ?_) (fun h_ => ?_)) <;> (try simp only [decide_eq_true_eq, decide_eq_false_iff_not, Bool.not_true, Bool.not_false, Bool.not_eq_true', Bool.not_eq_false', Bool.not_eq_eq_eq_not, Decidable.not_not] at h_) <;> (try simp only [r5_0, r5_1, r5_2, r5_3, r5_4, r5_5, r5_6, r5_7, r5_8, r5_9, r5_10, r5_11, r5_12, r5_13, r5_14, r5_15, r5_16, r5_17, r5_18, r5_19, r5_20, r5_21, r5_22, r5_23, r5_24, r5_25, r5_26, r5_27, r5_28, r5_29, r5_30, c5, F5, hlen, hplen, g, g2, h_, go_sem, Int.reduceTMod, Int.reduceTDiv, Int.reduceDiv, Int.reduceMod, Int.reduceAdd, Int.reduceSub, Int.reduceMul, Int.reduceNeg, Int.reducePow, Int.reduceEq, ↓reduceIte, Nat.reduceEqDiff, Nat.reduceAdd, Nat.reduceMul, Nat.reduceLeDiff, Nat.reduceSub, Nat.reduceLT, Int.reduceToNat, Int.reduceLT, Int.reduceLE, reduceCtorEq]))
  rw [← hM0]
  refine RK_callk ?_
  refine (w_refs _ l _ _ hr0.frz (by omega)).mono ?_
  rintro r1 m1 n1 ⟨ho1, hn1⟩
  obtain ⟨M1, hM1⟩ : ∃ M1, M1 = unfrz M0 (n + 2) m1 := ⟨_, rfl⟩
  rw [← hM1, show max (n + 2) n1 = n1 by omega]
  have hf1 : ∀ id, id < n + 2 → M1 id = M0 id := fun id hid => by rw [hM1, unfrz_at, if_pos hid]
  have hr1 : RPt M1 n1 (.one c0) l := hr0.keep hn1 hf1
  have hp1 : RIn M1 n1 (.one pc) pat := hp0.keep hn1 hf1
  have hx1 : RPt M1 n1 r1 l := (ho1.rl cs2).keep' (Nat.le_refl _) (fun id hid => by rw [hM1, unfrz_at, if_neg (by have := ho1.sidge hid; omega)])
  have hb1 : M1 n = some ⟨[c0, .sc (.bool c)], true⟩ := by rw [hf1 n (by omega)]; exact hb0
  have hc1 : M1 (n + 1) = some ⟨[pc, I ph], true⟩ := by rw [hf1 _ (by omega)]; exact hc0
  try simp only [r5_0, r5_1, r5_2, r5_3, r5_4, r5_5, r5_6, r5_7, r5_8, r5_9, r5_10, r5_11, r5_12, r5_13, r5_14, r5_15, r5_16, r5_17, r5_18, r5_19, r5_20, r5_21, r5_22, r5_23, r5_24, r5_25, r5_26, r5_27, r5_28, r5_29, r5_30, c5, F5, hb1, rd_of hb1, hc1, rd_of hc1, go_sem, Int.reduceTMod, Int.reduceTDiv, Int.reduceDiv, Int.reduceMod, Int.reduceAdd, Int.reduceSub, Int.reduceMul, Int.reduceNeg, Int.reducePow, Int.reduceEq, ↓reduceIte, Nat.reduceEqDiff, Nat.reduceAdd, Nat.reduceMul, Nat.reduceLeDiff, Nat.reduceSub, Nat.reduceLT, Int.reduceToNat, Int.reduceLT, Int.reduceLE, reduceCtorEq]
  repeat' ((first | refine FK_split (fun h_ => ?_) (fun h_ => ?_) | refine GK_split (fun h_ => ?_) (fun h_ => ?_) | refine ite_both (fun h_ => ?_) (fun h_ => ?_)) <;> (try simp only [decide_eq_true_eq, decide_eq_false_iff_not, Bool.not_true, Bool.not_false, Bool.not_eq_true', Bool.not_eq_false', Bool.not_eq_eq_eq_not, Decidable.not_not] at h_) <;> (try simp only [r5_0, r5_1, r5_2, r5_3, r5_4, r5_5, r5_6, r5_7, r5_8, r5_9, r5_10, r5_11, r5_12, r5_13, r5_14, r5_15, r5_16, r5_17, r5_18, r5_19, r5_20, r5_21, r5_22, r5_23, r5_24, r5_25, r5_26, r5_27, r5_28, r5_29, r5_30, c5, F5, hb1, rd_of hb1, hc1, rd_of hc1, h_, go_sem, Int.reduceTMod, Int.reduceTDiv, Int.reduceDiv, Int.reduceMod, Int.reduceAdd, Int.reduceSub, Int.reduceMul, Int.reduceNeg, Int.reducePow, Int.reduceEq, ↓reduceIte, Nat.reduceEqDiff, Nat.reduceAdd, Nat.reduceMul, Nat.reduceLeDiff, Nat.reduceSub, Nat.reduceLT, Int.reduceToNat, Int.reduceLT, Int.reduceLE, reduceCtorEq]))
  refine RK_callk ?_
  refine (w_Dash (c := c) (ph := ph) hr1.frz hp1.frz (by omega) (by omega)).mono ?_
  rintro r2 m2 n2 ⟨x, k, rfl, hQ⟩
  have hC := dash_cases hQ (by omega)
  clear hQ
  obtain ⟨M2, hM2⟩ : ∃ M2, M2 = unfrz M1 n1 m2 := ⟨_, rfl⟩
  obtain ⟨N2, hN2⟩ : ∃ N2, N2 = max n1 n2 := ⟨_, rfl⟩
  rw [← hM2, ← hN2]
  have hf2 : ∀ id, id < n1 → M2 id = M1 id := fun id hid => by rw [hM2, unfrz_at, if_pos hid]
  have hg2 : ∀ id, n1 ≤ id → M2 id = m2 id := fun id hid => by rw [hM2, unfrz_at, if_neg (by omega)]
  have hr2 : RPt M2 N2 (.one c0) l := hr1.keep (by omega) hf2
  have hp2 : RIn M2 N2 (.one pc) pat := hp1.keep (by omega) hf2
  have hx2 : RPt M2 N2 r1 l := hx1.keep (by omega) hf2
  have hb2 : M2 n = some ⟨[c0, .sc (.bool c)], true⟩ := by rw [hf2 n (by omega)]; exact hb1
  have hc2 : M2 (n + 1) = some ⟨[pc, I ph], true⟩ := by rw [hf2 _ (by omega)]; exact hc1
  have v1 := v_same (.one c0) r1 l l (frz M2) N2 hr2.frz hx2.frz (by omega)
  rw [decide_eq_true rfl] at v1
  have v2 := v_Right (.one pc) pat ph (frz M2) N2 hp2.frz (by omega)
  have v3 := v_In07 r1 l (frz M2) N2 hx2.frz (by omega)
  have a1 : lenO rnil = some 0 := rfl
  rcases hC with ⟨hbad, rfl, rfl⟩ | ⟨hri, hi, hC⟩
  · cases h1 : rightB pat ph
    · rw [h1] at v2
      try simp only [r5_0, r5_1, r5_2, r5_3, r5_4, r5_5, r5_6, r5_7, r5_8, r5_9, r5_10, r5_11, r5_12, r5_13, r5_14, r5_15, r5_16, r5_17, r5_18, r5_19, r5_20, r5_21, r5_22, r5_23, r5_24, r5_25, r5_26, r5_27, r5_28, r5_29, r5_30, c5, F5, hb2, rd_of hb2, hc2, rd_of hc2, v1, v2, a1, v_awake, go_sem, Int.reduceTMod, Int.reduceTDiv, Int.reduceDiv, Int.reduceMod, Int.reduceAdd, Int.reduceSub, Int.reduceMul, Int.reduceNeg, Int.reducePow, Int.reduceEq, ↓reduceIte, Nat.reduceEqDiff, Nat.reduceAdd, Nat.reduceMul, Nat.reduceLeDiff, Nat.reduceSub, Nat.reduceLT, Int.reduceToNat, Int.reduceLT, Int.reduceLE, reduceCtorEq]
      repeat' ((first | refine FK_split (fun h_ => ?_) (fun h_ => ?_) | refine GK_split (fun h_ => ?_) (fun h_ => ?_) | refine ite_both (fun h_ => ?_) (fun h_ => ?_)) <;> (try simp only [decide_eq_true_eq, decide_eq_false_iff_not, Bool.not_true, Bool.not_false, Bool.not_eq_true', Bool.not_eq_false', Bool.not_eq_eq_eq_not, Decidable.not_not] at h_) <;> (try simp only [r5_0, r5_1, r5_2, r5_3, r5_4, r5_5, r5_6, r5_7, r5_8, r5_9, r5_10, r5_11, r5_12, r5_13, r5_14, r5_15, r5_16, r5_17, r5_18, r5_19, r5_20, r5_21, r5_22, r5_23, r5_24, r5_25, r5_26, r5_27, r5_28, r5_29, r5_30, c5, F5, hb2, rd_of hb2, hc2, rd_of hc2, v1, v2, a1, v_awake, h_, go_sem, Int.reduceTMod, Int.reduceTDiv, Int.reduceDiv, Int.reduceMod, Int.reduceAdd, Int.reduceSub, Int.reduceMul, Int.reduceNeg, Int.reducePow, Int.reduceEq, ↓reduceIte, Nat.reduceEqDiff, Nat.reduceAdd, Nat.reduceMul, Nat.reduceLeDiff, Nat.reduceSub, Nat.reduceLT, Int.reduceToNat, Int.reduceLT, Int.reduceLE, reduceCtorEq]))
    · have h2 : l.all inP = false := hbad.resolve_left (by rw [h1]; decide)
      rw [h1] at v2
      rw [h2] at v3
      try simp only [r5_0, r5_1, r5_2, r5_3, r5_4, r5_5, r5_6, r5_7, r5_8, r5_9, r5_10, r5_11, r5_12, r5_13, r5_14, r5_15, r5_16, r5_17, r5_18, r5_19, r5_20, r5_21, r5_22, r5_23, r5_24, r5_25, r5_26, r5_27, r5_28, r5_29, r5_30, c5, F5, hb2, rd_of hb2, hc2, rd_of hc2, v1, v2, v3, a1, v_awake, go_sem, Int.reduceTMod, Int.reduceTDiv, Int.reduceDiv, Int.reduceMod, Int.reduceAdd, Int.reduceSub, Int.reduceMul, Int.reduceNeg, Int.reducePow, Int.reduceEq, ↓reduceIte, Nat.reduceEqDiff, Nat.reduceAdd, Nat.reduceMul, Nat.reduceLeDiff, Nat.reduceSub, Nat.reduceLT, Int.reduceToNat, Int.reduceLT, Int.reduceLE, reduceCtorEq]
      repeat' ((first | refine FK_split (fun h_ => ?_) (fun h_ => ?_) | refine GK_split (fun h_ => ?_) (fun h_ => ?_) | refine ite_both (fun h_ => ?_) (fun h_ => ?_)) <;> (try simp only [decide_eq_true_eq, decide_eq_false_iff_not, Bool.not_true, Bool.not_false, Bool.not_eq_true', Bool.not_eq_false', Bool.not_eq_eq_eq_not, Decidable.not_not] at h_) <;> (try simp only [r5_0, r5_1, r5_2, r5_3, r5_4, r5_5, r5_6, r5_7, r5_8, r5_9, r5_10, r5_11, r5_12, r5_13, r5_14, r5_15, r5_16, r5_17, r5_18, r5_19, r5_20, r5_21, r5_22, r5_23, r5_24, r5_25, r5_26, r5_27, r5_28, r5_29, r5_30, c5, F5, hb2, rd_of hb2, hc2, rd_of hc2, v1, v2, v3, a1, v_awake, h_, go_sem, Int.reduceTMod, Int.reduceTDiv, Int.reduceDiv, Int.reduceMod, Int.reduceAdd, Int.reduceSub, Int.reduceMul, Int.reduceNeg, Int.reducePow, Int.reduceEq, ↓reduceIte, Nat.reduceEqDiff, Nat.reduceAdd, Nat.reduceMul, Nat.reduceLeDiff, Nat.reduceSub, Nat.reduceLT, Int.reduceToNat, Int.reduceLT, Int.reduceLE, reduceCtorEq]))
  rw [hri] at v2
  rw [hi] at v3
  try simp only [r5_0, r5_1, r5_2, r5_3, r5_4, r5_5, r5_6, r5_7, r5_8, r5_9, r5_10, r5_11, r5_12, r5_13, r5_14, r5_15, r5_16, r5_17, r5_18, r5_19, r5_20, r5_21, r5_22, r5_23, r5_24, r5_25, r5_26, r5_27, r5_28, r5_29, r5_30, c5, F5, hb2, rd_of hb2, hc2, rd_of hc2, v1, v2, v3, go_sem, Int.reduceTMod, Int.reduceTDiv, Int.reduceDiv, Int.reduceMod, Int.reduceAdd, Int.reduceSub, Int.reduceMul, Int.reduceNeg, Int.reducePow, Int.reduceEq, ↓reduceIte, Nat.reduceEqDiff, Nat.reduceAdd, Nat.reduceMul, Nat.reduceLeDiff, Nat.reduceSub, Nat.reduceLT, Int.reduceToNat, Int.reduceLT, Int.reduceLE, reduceCtorEq]
  repeat' ((first | refine FK_split (fun h_ => ?_) (fun h_ => ?_) | refine GK_split (fun h_ => ?_) (fun h_ => ?_) | refine ite_both (fun h_ => ?_) (fun h_ => ?_)) <;> (try simp only [decide_eq_true_eq, decide_eq_false_iff_not, Bool.not_true, Bool.not_false, Bool.not_eq_true', Bool.not_eq_false', Bool.not_eq_eq_eq_not, Decidable.not_not] at h_) <;> (try simp only [r5_0, r5_1, r5_2, r5_3, r5_4, r5_5, r5_6, r5_7, r5_8, r5_9, r5_10, r5_11, r5_12, r5_13, r5_14, r5_15, r5_16, r5_17, r5_18, r5_19, r5_20, r5_21, r5_22, r5_23, r5_24, r5_25, r5_26, r5_27, r5_28, r5_29, r5_30, c5, F5, hb2, rd_of hb2, hc2, rd_of hc2, v1, v2, v3, h_, go_sem, Int.reduceTMod, Int.reduceTDiv, Int.reduceDiv, Int.reduceMod, Int.reduceAdd, Int.reduceSub, Int.reduceMul, Int.reduceNeg, Int.reducePow, Int.reduceEq, ↓reduceIte, Nat.reduceEqDiff, Nat.reduceAdd, Nat.reduceMul, Nat.reduceLeDiff, Nat.reduceSub, Nat.reduceLT, Int.reduceToNat, Int.reduceLT, Int.reduceLE, reduceCtorEq]))
  refine RK_callk ?_
  refine (w_rWay r1 l c _ _ hx2.frz hi (by omega)).mono ?_
  rintro r3 m3 n3 ⟨hn3, y, rfl, hy1, hy2⟩
  obtain ⟨M3, hM3⟩ : ∃ M3, M3 = unfrz M2 N2 m3 := ⟨_, rfl⟩
  rw [← hM3, show max N2 n3 = n3 by omega]
  have hf3 : ∀ id, id < N2 → M3 id = M2 id := fun id hid => by rw [hM3, unfrz_at, if_pos hid]
  have hx3 : RPt M3 n3 r1 l := hx2.keep hn3 hf3
  have hp3 : RIn M3 n3 (.one pc) pat := hp2.keep hn3 hf3
  have hb3 : M3 n = some ⟨[c0, .sc (.bool c)], true⟩ := by rw [hf3 n (by omega)]; exact hb2
  have hc3 : M3 (n + 1) = some ⟨[pc, I ph], true⟩ := by rw [hf3 _ (by omega)]; exact hc2
  have hl3 := hx3.len
  have hl4 := hp3.len
  rcases hC with ⟨hlg, rfl, rfl⟩ | ⟨hlg, hC⟩
  · rw [hlg]
    try simp only [r5_0, r5_1, r5_2, r5_3, r5_4, r5_5, r5_6, r5_7, r5_8, r5_9, r5_10, r5_11, r5_12, r5_13, r5_14, r5_15, r5_16, r5_17, r5_18, r5_19, r5_20, r5_21, r5_22, r5_23, r5_24, r5_25, r5_26, r5_27, r5_28, r5_29, r5_30, c5, F5, a1, v_awake, go_sem, Int.reduceTMod, Int.reduceTDiv, Int.reduceDiv, Int.reduceMod, Int.reduceAdd, Int.reduceSub, Int.reduceMul, Int.reduceNeg, Int.reducePow, Int.reduceEq, ↓reduceIte, Nat.reduceEqDiff, Nat.reduceAdd, Nat.reduceMul, Nat.reduceLeDiff, Nat.reduceSub, Nat.reduceLT, Int.reduceToNat, Int.reduceLT, Int.reduceLE, reduceCtorEq]
    repeat' ((first | refine FK_split (fun h_ => ?_) (fun h_ => ?_) | refine GK_split (fun h_ => ?_) (fun h_ => ?_) | refine ite_both (fun h_ => ?_) (fun h_ => ?_)) <;> (try simp only [decide_eq_true_eq, decide_eq_false_iff_not, Bool.not_true, Bool.not_false, Bool.not_eq_true', Bool.not_eq_false', Bool.not_eq_eq_eq_not, Decidable.not_not] at h_) <;> (try simp only [r5_0, r5_1, r5_2, r5_3, r5_4, r5_5, r5_6, r5_7, r5_8, r5_9, r5_10, r5_11, r5_12, r5_13, r5_14, r5_15, r5_16, r5_17, r5_18, r5_19, r5_20, r5_21, r5_22, r5_23, r5_24, r5_25, r5_26, r5_27, r5_28, r5_29, r5_30, c5, F5, a1, v_awake, h_, go_sem, Int.reduceTMod, Int.reduceTDiv, Int.reduceDiv, Int.reduceMod, Int.reduceAdd, Int.reduceSub, Int.reduceMul, Int.reduceNeg, Int.reducePow, Int.reduceEq, ↓reduceIte, Nat.reduceEqDiff, Nat.reduceAdd, Nat.reduceMul, Nat.reduceLeDiff, Nat.reduceSub, Nat.reduceLT, Int.reduceToNat, Int.reduceLT, Int.reduceLE, reduceCtorEq]))
  obtain ⟨hz1, hz2⟩ := hy2 hlg
  have hwl := way_len l c
  have hz3 : RPt M3 n3 y (wayL l c) := hz1.keep' (Nat.le_refl _) (fun id hid => by rw [hM3, unfrz_at, if_neg (by have := hz2 id hid; omega)])
  have hl5 := hz3.len
  rw [hlg]
  rcases hC with ⟨rfl, rfl, rfl⟩ | ⟨hlne, hwne, hC⟩
  · simp only [List.length_nil] at hl3
    try simp only [r5_0, r5_1, r5_2, r5_3, r5_4, r5_5, r5_6, r5_7, r5_8, r5_9, r5_10, r5_11, r5_12, r5_13, r5_14, r5_15, r5_16, r5_17, r5_18, r5_19, r5_20, r5_21, r5_22, r5_23, r5_24, r5_25, r5_26, r5_27, r5_28, r5_29, r5_30, c5, F5, hl3, a1, v_awake, go_sem, Int.reduceTMod, Int.reduceTDiv, Int.reduceDiv, Int.reduceMod, Int.reduceAdd, Int.reduceSub, Int.reduceMul, Int.reduceNeg, Int.reducePow, Int.reduceEq, ↓reduceIte, Nat.reduceEqDiff, Nat.reduceAdd, Nat.reduceMul, Nat.reduceLeDiff, Nat.reduceSub, Nat.reduceLT, Int.reduceToNat, Int.reduceLT, Int.reduceLE, reduceCtorEq]
    repeat' ((first | refine FK_split (fun h_ => ?_) (fun h_ => ?_) | refine GK_split (fun h_ => ?_) (fun h_ => ?_) | refine ite_both (fun h_ => ?_) (fun h_ => ?_)) <;> (try simp only [decide_eq_true_eq, decide_eq_false_iff_not, Bool.not_true, Bool.not_false, Bool.not_eq_true', Bool.not_eq_false', Bool.not_eq_eq_eq_not, Decidable.not_not] at h_) <;> (try simp only [r5_0, r5_1, r5_2, r5_3, r5_4, r5_5, r5_6, r5_7, r5_8, r5_9, r5_10, r5_11, r5_12, r5_13, r5_14, r5_15, r5_16, r5_17, r5_18, r5_19, r5_20, r5_21, r5_22, r5_23, r5_24, r5_25, r5_26, r5_27, r5_28, r5_29, r5_30, c5, F5, hl3, a1, v_awake, h_, go_sem, Int.reduceTMod, Int.reduceTDiv, Int.reduceDiv, Int.reduceMod, Int.reduceAdd, Int.reduceSub, Int.reduceMul, Int.reduceNeg, Int.reducePow, Int.reduceEq, ↓reduceIte, Nat.reduceEqDiff, Nat.reduceAdd, Nat.reduceMul, Nat.reduceLeDiff, Nat.reduceSub, Nat.reduceLT, Int.reduceToNat, Int.reduceLT, Int.reduceLE, reduceCtorEq]))
  have hl0 : ((l.length : Int) = 0) = False := eq_false (fun e => hlne (List.length_eq_zero_iff.1 (by omega)))
  rcases hC with ⟨rfl, rfl, id, cl, rfl, k1, k2, k3, k4, k5⟩ | ⟨hpe, hP, hph, hC⟩
  · have e1 : M3 id = some ⟨[cl, .sc (.bool c)], true⟩ := by rw [hf3 id (by omega), hg2 id k1]; exact k3
    have e2 : RPt M3 n3 (.one cl) l := k4.keep' (by omega) (fun j hj => by rw [hf3 j (by have := k4.lt hj; omega), hg2 j (k5 j hj)])
    have v4 := v_same (.one cl) r1 l l (frz M3) n3 e2.frz hx3.frz (by omega)
    rw [decide_eq_true rfl] at v4
    have a2 : lenO (.one (.sl id 0 1 (some 1) 2)) = some 1 := rfl
    simp only [List.length_nil] at hl4
    try simp only [r5_0, r5_1, r5_2, r5_3, r5_4, r5_5, r5_6, r5_7, r5_8, r5_9, r5_10, r5_11, r5_12, r5_13, r5_14, r5_15, r5_16, r5_17, r5_18, r5_19, r5_20, r5_21, r5_22, r5_23, r5_24, r5_25, r5_26, r5_27, r5_28, r5_29, r5_30, c5, F5, hl3, hl0, hl4, hc3, rd_of hc3, a2, e1, rd_of e1, v4, hb3, rd_of hb3, v_awake, go_sem, Int.reduceTMod, Int.reduceTDiv, Int.reduceDiv, Int.reduceMod, Int.reduceAdd, Int.reduceSub, Int.reduceMul, Int.reduceNeg, Int.reducePow, Int.reduceEq, ↓reduceIte, Nat.reduceEqDiff, Nat.reduceAdd, Nat.reduceMul, Nat.reduceLeDiff, Nat.reduceSub, Nat.reduceLT, Int.reduceToNat, Int.reduceLT, Int.reduceLE, reduceCtorEq]
    repeat' ((first | refine FK_split (fun h_ => ?_) (fun h_ => ?_) | refine GK_split (fun h_ => ?_) (fun h_ => ?_) | refine ite_both (fun h_ => ?_) (fun h_ => ?_)) <;> (try simp only [decide_eq_true_eq, decide_eq_false_iff_not, Bool.not_true, Bool.not_false, Bool.not_eq_true', Bool.not_eq_false', Bool.not_eq_eq_eq_not, Decidable.not_not] at h_) <;> (try simp only [r5_0, r5_1, r5_2, r5_3, r5_4, r5_5, r5_6, r5_7, r5_8, r5_9, r5_10, r5_11, r5_12, r5_13, r5_14, r5_15, r5_16, r5_17, r5_18, r5_19, r5_20, r5_21, r5_22, r5_23, r5_24, r5_25, r5_26, r5_27, r5_28, r5_29, r5_30, c5, F5, hl3, hl0, hl4, hc3, rd_of hc3, a2, e1, rd_of e1, v4, hb3, rd_of hb3, v_awake, h_, go_sem, Int.reduceTMod, Int.reduceTDiv, Int.reduceDiv, Int.reduceMod, Int.reduceAdd, Int.reduceSub, Int.reduceMul, Int.reduceNeg, Int.reducePow, Int.reduceEq, ↓reduceIte, Nat.reduceEqDiff, Nat.reduceAdd, Nat.reduceMul, Nat.reduceLeDiff, Nat.reduceSub, Nat.reduceLT, Int.reduceToNat, Int.reduceLT, Int.reduceLE, reduceCtorEq]))
  have hpl : ((pat.length : Int) = 0) = False := eq_false (fun e => hpe (List.length_eq_zero_iff.1 (by omega)))
  by_cases hone : (wayL l c).length = 1
  · have hone' : (((wayL l c).length : Int) = 1) = True := eq_true (by omega)
    have vd := v_ldrawn (frz M3) n3 hp3.frz hP hph
    have hdo := dash_one (pat := pat) (ph := ph) hone
    rcases hC with ⟨hd, _⟩ | ⟨ls, hd, rfl, hrow, _⟩
    · rw [hdo] at hd; cases hd
    rw [hdo] at hd
    cases hdr : decide ((phS pat ph).1 % 2 = 0)
    · rw [hdr] at vd
      rw [if_neg (of_decide_eq_false hdr)] at hd
      cases hd
      have hlx := hrow.len
      simp only [List.length_nil] at hlx
      try simp only [r5_0, r5_1, r5_2, r5_3, r5_4, r5_5, r5_6, r5_7, r5_8, r5_9, r5_10, r5_11, r5_12, r5_13, r5_14, r5_15, r5_16, r5_17, r5_18, r5_19, r5_20, r5_21, r5_22, r5_23, r5_24, r5_25, r5_26, r5_27, r5_28, r5_29, r5_30, c5, F5, hl3, hl0, hl4, hpl, hl5, hone', hc3, rd_of hc3, vd, hlx, v_awake, go_sem, Int.reduceTMod, Int.reduceTDiv, Int.reduceDiv, Int.reduceMod, Int.reduceAdd, Int.reduceSub, Int.reduceMul, Int.reduceNeg, Int.reducePow, Int.reduceEq, ↓reduceIte, Nat.reduceEqDiff, Nat.reduceAdd, Nat.reduceMul, Nat.reduceLeDiff, Nat.reduceSub, Nat.reduceLT, Int.reduceToNat, Int.reduceLT, Int.reduceLE, reduceCtorEq]
      repeat' ((first | refine FK_split (fun h_ => ?_) (fun h_ => ?_) | refine GK_split (fun h_ => ?_) (fun h_ => ?_) | refine ite_both (fun h_ => ?_) (fun h_ => ?_)) <;> (try simp only [decide_eq_true_eq, decide_eq_false_iff_not, Bool.not_true, Bool.not_false, Bool.not_eq_true', Bool.not_eq_false', Bool.not_eq_eq_eq_not, Decidable.not_not] at h_) <;> (try simp only [r5_0, r5_1, r5_2, r5_3, r5_4, r5_5, r5_6, r5_7, r5_8, r5_9, r5_10, r5_11, r5_12, r5_13, r5_14, r5_15, r5_16, r5_17, r5_18, r5_19, r5_20, r5_21, r5_22, r5_23, r5_24, r5_25, r5_26, r5_27, r5_28, r5_29, r5_30, c5, F5, hl3, hl0, hl4, hpl, hl5, hone', hc3, rd_of hc3, vd, hlx, v_awake, h_, go_sem, Int.reduceTMod, Int.reduceTDiv, Int.reduceDiv, Int.reduceMod, Int.reduceAdd, Int.reduceSub, Int.reduceMul, Int.reduceNeg, Int.reducePow, Int.reduceEq, ↓reduceIte, Nat.reduceEqDiff, Nat.reduceAdd, Nat.reduceMul, Nat.reduceLeDiff, Nat.reduceSub, Nat.reduceLT, Int.reduceToNat, Int.reduceLT, Int.reduceLE, reduceCtorEq]))
    · rw [hdr] at vd
      rw [if_pos (of_decide_eq_true hdr)] at hd
      cases hd
      have hrow3 : RowF n1 M3 n3 x [wayL l c] := hrow.keep (by omega) (fun j a b => by rw [hf3 j (by omega), hg2 j a])
      rcases hrow3 with ⟨_, e⟩ | ⟨id, cap, b, rfl, k1, k2, k3, k4⟩
      · cases e
      obtain ⟨d, q1, q2, q3, q4⟩ := k4 0 (wayL l c) rfl
      rw [Nat.zero_mul] at q1
      have v4 := v_same (.one d) y (wayL l c) (wayL l c) (frz M3) n3 q3.frz hz3.frz (by omega)
      rw [decide_eq_true rfl] at v4
      have a2 : lenO (.one (.sl id 0 [wayL l c].length cap 2)) = some 1 := rfl
      try simp only [r5_0, r5_1, r5_2, r5_3, r5_4, r5_5, r5_6, r5_7, r5_8, r5_9, r5_10, r5_11, r5_12, r5_13, r5_14, r5_15, r5_16, r5_17, r5_18, r5_19, r5_20, r5_21, r5_22, r5_23, r5_24, r5_25, r5_26, r5_27, r5_28, r5_29, r5_30, c5, F5, hl3, hl0, hl4, hpl, hl5, hone', hc3, rd_of hc3, vd, a2, k3, q1, v4, Nat.zero_mul, Nat.add_zero, List.length_singleton, v_awake, go_sem, Int.reduceTMod, Int.reduceTDiv, Int.reduceDiv, Int.reduceMod, Int.reduceAdd, Int.reduceSub, Int.reduceMul, Int.reduceNeg, Int.reducePow, Int.reduceEq, ↓reduceIte, Nat.reduceEqDiff, Nat.reduceAdd, Nat.reduceMul, Nat.reduceLeDiff, Nat.reduceSub, Nat.reduceLT, Int.reduceToNat, Int.reduceLT, Int.reduceLE, reduceCtorEq]
      repeat' ((first | refine FK_split (fun h_ => ?_) (fun h_ => ?_) | refine GK_split (fun h_ => ?_) (fun h_ => ?_) | refine ite_both (fun h_ => ?_) (fun h_ => ?_)) <;> (try simp only [decide_eq_true_eq, decide_eq_false_iff_not, Bool.not_true, Bool.not_false, Bool.not_eq_true', Bool.not_eq_false', Bool.not_eq_eq_eq_not, Decidable.not_not] at h_) <;> (try simp only [r5_0, r5_1, r5_2, r5_3, r5_4, r5_5, r5_6, r5_7, r5_8, r5_9, r5_10, r5_11, r5_12, r5_13, r5_14, r5_15, r5_16, r5_17, r5_18, r5_19, r5_20, r5_21, r5_22, r5_23, r5_24, r5_25, r5_26, r5_27, r5_28, r5_29, r5_30, c5, F5, hl3, hl0, hl4, hpl, hl5, hone', hc3, rd_of hc3, vd, a2, k3, q1, v4, Nat.zero_mul, Nat.add_zero, List.length_singleton, v_awake, h_, go_sem, Int.reduceTMod, Int.reduceTDiv, Int.reduceDiv, Int.reduceMod, Int.reduceAdd, Int.reduceSub, Int.reduceMul, Int.reduceNeg, Int.reducePow, Int.reduceEq, ↓reduceIte, Nat.reduceEqDiff, Nat.reduceAdd, Nat.reduceMul, Nat.reduceLeDiff, Nat.reduceSub, Nat.reduceLT, Int.reduceToNat, Int.reduceLT, Int.reduceLE, reduceCtorEq]))
  · have hone' : (((wayL l c).length : Int) = 1) = False := eq_false (by omega)
    have h2 : 2 ≤ (wayL l c).length := by have := List.length_pos_iff.2 hwne; omega
    have hW : WayW (wayL l c) := ⟨way_I hlg h2, List.all_eq_true.2 (fun p hp => List.all_eq_true.1 hi p (way_mem hp)), fun i a b ha hb => lg_at hlg ha hb, by omega⟩
    try simp only [r5_0, r5_1, r5_2, r5_3, r5_4, r5_5, r5_6, r5_7, r5_8, r5_9, r5_10, r5_11, r5_12, r5_13, r5_14, r5_15, r5_16, r5_17, r5_18, r5_19, r5_20, r5_21, r5_22, r5_23, r5_24, r5_25, r5_26, r5_27, r5_28, r5_29, r5_30, c5, F5, hl3, hl0, hl4, hpl, hl5, hone', hc3, rd_of hc3, go_sem, Int.reduceTMod, Int.reduceTDiv, Int.reduceDiv, Int.reduceMod, Int.reduceAdd, Int.reduceSub, Int.reduceMul, Int.reduceNeg, Int.reducePow, Int.reduceEq, ↓reduceIte, Nat.reduceEqDiff, Nat.reduceAdd, Nat.reduceMul, Nat.reduceLeDiff, Nat.reduceSub, Nat.reduceLT, Int.reduceToNat, Int.reduceLT, Int.reduceLE, reduceCtorEq]
    repeat' ((first | refine FK_split (fun h_ => ?_) (fun h_ => ?_) | refine GK_split (fun h_ => ?_) (fun h_ => ?_) | refine ite_both (fun h_ => ?_) (fun h_ => ?_)) <;> (try simp only [decide_eq_true_eq, decide_eq_false_iff_not, Bool.not_true, Bool.not_false, Bool.not_eq_true', Bool.not_eq_false', Bool.not_eq_eq_eq_not, Decidable.not_not] at h_) <;> (try simp only [r5_0, r5_1, r5_2, r5_3, r5_4, r5_5, r5_6, r5_7, r5_8, r5_9, r5_10, r5_11, r5_12, r5_13, r5_14, r5_15, r5_16, r5_17, r5_18, r5_19, r5_20, r5_21, r5_22, r5_23, r5_24, r5_25, r5_26, r5_27, r5_28, r5_29, r5_30, c5, F5, hl3, hl0, hl4, hpl, hl5, hone', hc3, rd_of hc3, h_, go_sem, Int.reduceTMod, Int.reduceTDiv, Int.reduceDiv, Int.reduceMod, Int.reduceAdd, Int.reduceSub, Int.reduceMul, Int.reduceNeg, Int.reducePow, Int.reduceEq, ↓reduceIte, Nat.reduceEqDiff, Nat.reduceAdd, Nat.reduceMul, Nat.reduceLeDiff, Nat.reduceSub, Nat.reduceLT, Int.reduceToNat, Int.reduceLT, Int.reduceLE, reduceCtorEq]))
    refine RK_callk ?_
    refine (w_rDash hW hP hph hz3.frz hp3.frz).mono ?_
    rintro r4 m4 n4 ⟨hn4, hD1, hD2⟩
    obtain ⟨M4, hM4⟩ : ∃ M4, M4 = unfrz M3 n3 m4 := ⟨_, rfl⟩
    rw [← hM4, show max n3 n4 = n4 by omega]
    have hf4 : ∀ id, id < n3 → M4 id = M3 id := fun id hid => by rw [hM4, unfrz_at, if_pos hid]
    rcases hC with ⟨hd, rfl, rfl⟩ | ⟨ls, hd, rfl, hrow, hls1, hls2⟩
    · rw [hD1 hd]
      try simp only [r5_0, r5_1, r5_2, r5_3, r5_4, r5_5, r5_6, r5_7, r5_8, r5_9, r5_10, r5_11, r5_12, r5_13, r5_14, r5_15, r5_16, r5_17, r5_18, r5_19, r5_20, r5_21, r5_22, r5_23, r5_24, r5_25, r5_26, r5_27, r5_28, r5_29, r5_30, c5, F5, a1, v_awake, go_sem, Int.reduceTMod, Int.reduceTDiv, Int.reduceDiv, Int.reduceMod, Int.reduceAdd, Int.reduceSub, Int.reduceMul, Int.reduceNeg, Int.reducePow, Int.reduceEq, ↓reduceIte, Nat.reduceEqDiff, Nat.reduceAdd, Nat.reduceMul, Nat.reduceLeDiff, Nat.reduceSub, Nat.reduceLT, Int.reduceToNat, Int.reduceLT, Int.reduceLE, reduceCtorEq]
      repeat' ((first | refine FK_split (fun h_ => ?_) (fun h_ => ?_) | refine GK_split (fun h_ => ?_) (fun h_ => ?_) | refine ite_both (fun h_ => ?_) (fun h_ => ?_)) <;> (try simp only [decide_eq_true_eq, decide_eq_false_iff_not, Bool.not_true, Bool.not_false, Bool.not_eq_true', Bool.not_eq_false', Bool.not_eq_eq_eq_not, Decidable.not_not] at h_) <;> (try simp only [r5_0, r5_1, r5_2, r5_3, r5_4, r5_5, r5_6, r5_7, r5_8, r5_9, r5_10, r5_11, r5_12, r5_13, r5_14, r5_15, r5_16, r5_17, r5_18, r5_19, r5_20, r5_21, r5_22, r5_23, r5_24, r5_25, r5_26, r5_27, r5_28, r5_29, r5_30, c5, F5, a1, v_awake, h_, go_sem, Int.reduceTMod, Int.reduceTDiv, Int.reduceDiv, Int.reduceMod, Int.reduceAdd, Int.reduceSub, Int.reduceMul, Int.reduceNeg, Int.reducePow, Int.reduceEq, ↓reduceIte, Nat.reduceEqDiff, Nat.reduceAdd, Nat.reduceMul, Nat.reduceLeDiff, Nat.reduceSub, Nat.reduceLT, Int.reduceToNat, Int.reduceLT, Int.reduceLE, reduceCtorEq]))
    obtain ⟨z, p, rfl, hp, hO⟩ := hD2 ls hd
    have hO4 : OPs p p p M4 n4 z ls := hO.keep (Nat.le_refl _) (fun id a _ _ _ => by rw [hM4, unfrz_at, if_neg (by omega)])
    have hrow4 : RowF n1 M4 n4 x ls := hrow.keep (by omega) (fun j a b => by rw [hf4 j (by omega), hf3 j (by omega), hg2 j a])
    have hlx := hrow4.len
    have hlz := hO4.len
    try simp only [r5_0, r5_1, r5_2, r5_3, r5_4, r5_5, r5_6, r5_7, r5_8, r5_9, r5_10, r5_11, r5_12, r5_13, r5_14, r5_15, r5_16, r5_17, r5_18, r5_19, r5_20, r5_21, r5_22, r5_23, r5_24, r5_25, r5_26, r5_27, r5_28, r5_29, r5_30, c5, F5, hlx, hlz, go_sem, Int.reduceTMod, Int.reduceTDiv, Int.reduceDiv, Int.reduceMod, Int.reduceAdd, Int.reduceSub, Int.reduceMul, Int.reduceNeg, Int.reducePow, Int.reduceEq, ↓reduceIte, Nat.reduceEqDiff, Nat.reduceAdd, Nat.reduceMul, Nat.reduceLeDiff, Nat.reduceSub, Nat.reduceLT, Int.reduceToNat, Int.reduceLT, Int.reduceLE, reduceCtorEq]
    repeat' ((first | refine FK_split (fun h_ => ?_) (fun h_ => ?_) | refine GK_split (fun h_ => ?_) (fun h_ => ?_) | refine ite_both (fun h_ => ?_) (fun h_ => ?_)) <;> (try simp only [decide_eq_true_eq, decide_eq_false_iff_not, Bool.not_true, Bool.not_false, Bool.not_eq_true', Bool.not_eq_false', Bool.not_eq_eq_eq_not, Decidable.not_not] at h_) <;> (try simp only [r5_0, r5_1, r5_2, r5_3, r5_4, r5_5, r5_6, r5_7, r5_8, r5_9, r5_10, r5_11, r5_12, r5_13, r5_14, r5_15, r5_16, r5_17, r5_18, r5_19, r5_20, r5_21, r5_22, r5_23, r5_24, r5_25, r5_26, r5_27, r5_28, r5_29, r5_30, c5, F5, hlx, hlz, h_, go_sem, Int.reduceTMod, Int.reduceTDiv, Int.reduceDiv, Int.reduceMod, Int.reduceAdd, Int.reduceSub, Int.reduceMul, Int.reduceNeg, Int.reducePow, Int.reduceEq, ↓reduceIte, Nat.reduceEqDiff, Nat.reduceAdd, Nat.reduceMul, Nat.reduceLeDiff, Nat.reduceSub, Nat.reduceLT, Int.reduceToNat, Int.reduceLT, Int.reduceLE, reduceCtorEq]))
    refine XK_iter (inv := fun i s => s.e 192 = RI i ∧ s.e 191 = RI ls.length ∧ s.e 6 = x ∧ s.e 11 = z ∧ n4 ≤ s.n ∧ ∀ id, id < n4 → s.m id = M4 id) ls.length
      (fun L _ => ⟨fun i hi' s hs' next => ?_, fun s hs' => ?_⟩) 0 (by omega) _ ⟨?_, ?_, ?_, ?_, Nat.le_refl _, fun _ _ => rfl⟩
    · obtain ⟨e, M5, N5⟩ := s
      obtain ⟨q192, q191, q6, q11, qn, qm⟩ := hs'
      simp only at q192 q191 q6 q11 qn qm
      have hp5 : ls[i]? = some ls[i] := List.getElem?_eq_getElem hi'
      have hul := hls2 ls[i] (List.getElem_mem hi')
      have hrow5 : RowF n1 M5 N5 x ls := hrow4.keep qn (fun id a b => qm id b)
      have hO5 : OPs p p p M5 N5 z ls := hO4.keep qn (fun id _ a _ _ => qm id a)
      rcases hrow5 with ⟨_, e0⟩ | ⟨id, cap, b, hx, _, hid, hbb, hel⟩
      · rw [e0] at hi'; simp at hi'
      obtain ⟨d, k1, k2, k3, k4⟩ := hel i _ hp5
      obtain ⟨id2, b2, d2, hz, hid2, hbb2, t1, t2⟩ := hO5.at hp5
      generalize ls[i] = lp at *
      have v4 := v_same (.one d) (.one d2) lp lp (frz M5) N5 k3.frz t2.frz hul
      rw [decide_eq_true rfl] at v4
      have c2 : ((i : Int) < (ls.length : Int)) = True := eq_true (by omega)
      have c3 : (0 ≤ (i : Int)) = True := eq_true (by omega)
      have c7 : IntKind.i64.wrap ((i : Int) + 1) = ((i + 1 : Nat) : Int) := wr_nat (by omega)
      rw [hx] at q6
      rw [hz] at q11
      try simp only [r5_0, r5_1, r5_2, r5_3, r5_4, r5_5, r5_6, r5_7, r5_8, r5_9, r5_10, r5_11, r5_12, r5_13, r5_14, r5_15, r5_16, r5_17, r5_18, r5_19, r5_20, r5_21, r5_22, r5_23, r5_24, r5_25, r5_26, r5_27, r5_28, r5_29, r5_30, c5, F5, l5_0, q192, q191, q6, q11, c2, c3, c7, hbb, k1, k2, hbb2, t1, v4, Int.toNat_natCast, Nat.mul_one, go_sem, Int.reduceTMod, Int.reduceTDiv, Int.reduceDiv, Int.reduceMod, Int.reduceAdd, Int.reduceSub, Int.reduceMul, Int.reduceNeg, Int.reducePow, Int.reduceEq, ↓reduceIte, Nat.reduceEqDiff, Nat.reduceAdd, Nat.reduceMul, Nat.reduceLeDiff, Nat.reduceSub, Nat.reduceLT, Int.reduceToNat, Int.reduceLT, Int.reduceLE, reduceCtorEq]
      repeat' ((first | refine FK_split (fun h_ => ?_) (fun h_ => ?_) | refine GK_split (fun h_ => ?_) (fun h_ => ?_) | refine ite_both (fun h_ => ?_) (fun h_ => ?_)) <;> (try simp only [decide_eq_true_eq, decide_eq_false_iff_not, Bool.not_true, Bool.not_false, Bool.not_eq_true', Bool.not_eq_false', Bool.not_eq_eq_eq_not, Decidable.not_not] at h_) <;> (try simp only [r5_0, r5_1, r5_2, r5_3, r5_4, r5_5, r5_6, r5_7, r5_8, r5_9, r5_10, r5_11, r5_12, r5_13, r5_14, r5_15, r5_16, r5_17, r5_18, r5_19, r5_20, r5_21, r5_22, r5_23, r5_24, r5_25, r5_26, r5_27, r5_28, r5_29, r5_30, c5, F5, l5_0, q192, q191, q6, q11, c2, c3, c7, hbb, k1, k2, hbb2, t1, v4, Int.toNat_natCast, Nat.mul_one, h_, go_sem, Int.reduceTMod, Int.reduceTDiv, Int.reduceDiv, Int.reduceMod, Int.reduceAdd, Int.reduceSub, Int.reduceMul, Int.reduceNeg, Int.reducePow, Int.reduceEq, ↓reduceIte, Nat.reduceEqDiff, Nat.reduceAdd, Nat.reduceMul, Nat.reduceLeDiff, Nat.reduceSub, Nat.reduceLT, Int.reduceToNat, Int.reduceLT, Int.reduceLE, reduceCtorEq]))
      refine next _ ⟨?_, ?_, ?_, ?_, qn, qm⟩
      · simp only [go_sem, Int.reduceTMod, Int.reduceTDiv, Int.reduceDiv, Int.reduceMod, Int.reduceAdd, Int.reduceSub, Int.reduceMul, Int.reduceNeg, Int.reducePow, Int.reduceEq, ↓reduceIte, Nat.reduceEqDiff, Nat.reduceAdd, Nat.reduceMul, Nat.reduceLeDiff, Nat.reduceSub, Nat.reduceLT, Int.reduceToNat, Int.reduceLT, Int.reduceLE, reduceCtorEq]
      · simp only [q191, go_sem, Int.reduceTMod, Int.reduceTDiv, Int.reduceDiv, Int.reduceMod, Int.reduceAdd, Int.reduceSub, Int.reduceMul, Int.reduceNeg, Int.reducePow, Int.reduceEq, ↓reduceIte, Nat.reduceEqDiff, Nat.reduceAdd, Nat.reduceMul, Nat.reduceLeDiff, Nat.reduceSub, Nat.reduceLT, Int.reduceToNat, Int.reduceLT, Int.reduceLE, reduceCtorEq]
      · simp only [q6, hx, go_sem, Int.reduceTMod, Int.reduceTDiv, Int.reduceDiv, Int.reduceMod, Int.reduceAdd, Int.reduceSub, Int.reduceMul, Int.reduceNeg, Int.reducePow, Int.reduceEq, ↓reduceIte, Nat.reduceEqDiff, Nat.reduceAdd, Nat.reduceMul, Nat.reduceLeDiff, Nat.reduceSub, Nat.reduceLT, Int.reduceToNat, Int.reduceLT, Int.reduceLE, reduceCtorEq]
      · simp only [q11, hz, go_sem, Int.reduceTMod, Int.reduceTDiv, Int.reduceDiv, Int.reduceMod, Int.reduceAdd, Int.reduceSub, Int.reduceMul, Int.reduceNeg, Int.reducePow, Int.reduceEq, ↓reduceIte, Nat.reduceEqDiff, Nat.reduceAdd, Nat.reduceMul, Nat.reduceLeDiff, Nat.reduceSub, Nat.reduceLT, Int.reduceToNat, Int.reduceLT, Int.reduceLE, reduceCtorEq]
    · obtain ⟨e, M5, N5⟩ := s
      obtain ⟨q192, q191, q6, q11, qn, qm⟩ := hs'
      simp only at q192 q191 q6 q11 qn qm
      have c2 : ((ls.length : Int) < (ls.length : Int)) = False := eq_false (by omega)
      try simp only [r5_0, r5_1, r5_2, r5_3, r5_4, r5_5, r5_6, r5_7, r5_8, r5_9, r5_10, r5_11, r5_12, r5_13, r5_14, r5_15, r5_16, r5_17, r5_18, r5_19, r5_20, r5_21, r5_22, r5_23, r5_24, r5_25, r5_26, r5_27, r5_28, r5_29, r5_30, c5, F5, l5_0, q192, q191, c2, v_awake, go_sem, Int.reduceTMod, Int.reduceTDiv, Int.reduceDiv, Int.reduceMod, Int.reduceAdd, Int.reduceSub, Int.reduceMul, Int.reduceNeg, Int.reducePow, Int.reduceEq, ↓reduceIte, Nat.reduceEqDiff, Nat.reduceAdd, Nat.reduceMul, Nat.reduceLeDiff, Nat.reduceSub, Nat.reduceLT, Int.reduceToNat, Int.reduceLT, Int.reduceLE, reduceCtorEq]
      repeat' ((first | refine FK_split (fun h_ => ?_) (fun h_ => ?_) | refine GK_split (fun h_ => ?_) (fun h_ => ?_) | refine ite_both (fun h_ => ?_) (fun h_ => ?_)) <;> (try simp only [decide_eq_true_eq, decide_eq_false_iff_not, Bool.not_true, Bool.not_false, Bool.not_eq_true', Bool.not_eq_false', Bool.not_eq_eq_eq_not, Decidable.not_not] at h_) <;> (try simp only [r5_0, r5_1, r5_2, r5_3, r5_4, r5_5, r5_6, r5_7, r5_8, r5_9, r5_10, r5_11, r5_12, r5_13, r5_14, r5_15, r5_16, r5_17, r5_18, r5_19, r5_20, r5_21, r5_22, r5_23, r5_24, r5_25, r5_26, r5_27, r5_28, r5_29, r5_30, c5, F5, l5_0, q192, q191, c2, v_awake, h_, go_sem, Int.reduceTMod, Int.reduceTDiv, Int.reduceDiv, Int.reduceMod, Int.reduceAdd, Int.reduceSub, Int.reduceMul, Int.reduceNeg, Int.reducePow, Int.reduceEq, ↓reduceIte, Nat.reduceEqDiff, Nat.reduceAdd, Nat.reduceMul, Nat.reduceLeDiff, Nat.reduceSub, Nat.reduceLT, Int.reduceToNat, Int.reduceLT, Int.reduceLE, reduceCtorEq]))
    · simp only [go_sem, Int.reduceTMod, Int.reduceTDiv, Int.reduceDiv, Int.reduceMod, Int.reduceAdd, Int.reduceSub, Int.reduceMul, Int.reduceNeg, Int.reducePow, Int.reduceEq, ↓reduceIte, Nat.reduceEqDiff, Nat.reduceAdd, Nat.reduceMul, Nat.reduceLeDiff, Nat.reduceSub, Nat.reduceLT, Int.reduceToNat, Int.reduceLT, Int.reduceLE, reduceCtorEq]
    · simp only [go_sem, Int.reduceTMod, Int.reduceTDiv, Int.reduceDiv, Int.reduceMod, Int.reduceAdd, Int.reduceSub, Int.reduceMul, Int.reduceNeg, Int.reducePow, Int.reduceEq, ↓reduceIte, Nat.reduceEqDiff, Nat.reduceAdd, Nat.reduceMul, Nat.reduceLeDiff, Nat.reduceSub, Nat.reduceLT, Int.reduceToNat, Int.reduceLT, Int.reduceLE, reduceCtorEq]
    · simp only [go_sem, Int.reduceTMod, Int.reduceTDiv, Int.reduceDiv, Int.reduceMod, Int.reduceAdd, Int.reduceSub, Int.reduceMul, Int.reduceNeg, Int.reducePow, Int.reduceEq, ↓reduceIte, Nat.reduceEqDiff, Nat.reduceAdd, Nat.reduceMul, Nat.reduceLeDiff, Nat.reduceSub, Nat.reduceLT, Int.reduceToNat, Int.reduceLT, Int.reduceLE, reduceCtorEq]
    · simp only [go_sem, Int.reduceTMod, Int.reduceTDiv, Int.reduceDiv, Int.reduceMod, Int.reduceAdd, Int.reduceSub, Int.reduceMul, Int.reduceNeg, Int.reducePow, Int.reduceEq, ↓reduceIte, Nat.reduceEqDiff, Nat.reduceAdd, Nat.reduceMul, Nat.reduceLeDiff, Nat.reduceSub, Nat.reduceLT, Int.reduceToNat, Int.reduceLT, Int.reduceLE, reduceCtorEq]

/- Arguments that are structs with slices in them, opened for the evaluator. Conditions: those that each theorem names. -/
open Go.RowKit Go.ChangeShapes Go.WideShapes Go.Deep
set_option linter.unusedVariables false

/-- What a cell holds that is a slice of flat elements. -/
def SlOk (w : World) (ks : List CK) (v : Value) : Prop :=
  v = .slice none 0 0 ∨ ∃ b o len cap vs, v = .slice (some ⟨b, o, none⟩) len cap ∧ b < w.heap.size ∧ len ≤ cap ∧ cap ≤ maxLen ∧ RowsOk ks cap vs ∧ ∀ (i : Nat) (x : Value), vs[i]? = some x → w.cell? ⟨b, o + i, none⟩ = some x

/-- A struct all of whose fields take one cell. -/
theorem arg_mix {P : Program} {T : TypeId} {fs : Array Field} {ts : List TypeId} (ht : P.underlying T = some (.struct fs)) (hts : P.cellTypes P.depth T = some ts) {H : Type} {enc : TypeId × Value → H} {w : World} {base base' : Nat} {held : Bool} {v : Value} {d : DataW H} {ps : List MemPlace}
    (hv : Value.okWide P w .any base' T v) (h : DataW.Trod enc P w base (fun _ => true) held T v d ps) :
    ∃ cs : List Value, v = .agg cs.toArray ∧ cs.length = P.cellsOf T ∧ ∀ (j : Nat) (f : Field) (c : Value), fs[j]? = some f → P.cellsOf f.type = 1 → (∀ u, ts[f.offset % ts.length]? = some u → u = f.type) → cs[f.offset]? = some c →
      Cell.okWide P w .any base' f.type c ∧ ∃ x fuel, DataW.trod enc P w base (fun _ => true) held fuel f.type [c] = some x := by
  simp only [Value.okWide, ht] at hv
  obtain ⟨cs, rfl, hsz, ts', h1, h2, h3⟩ := hv
  obtain rfl := Option.some.inj (hts.symm.trans h1)
  obtain ⟨fuel, hf⟩ := h
  have hf' : DataW.trod enc P w base (fun _ => true) held fuel T cs.toList = some (d, ps) := hf
  obtain ⟨xs, n, _, _, hl, hxs, hg⟩ := DataW.trod_struct ht hf'
  refine ⟨cs.toList, by simp, by simpa using hsz, fun j f c hj hc1 hu hc => ?_⟩
  obtain ⟨u, hu1, hu2⟩ := h3 f.offset c (by simpa using hc)
  have e := hu u hu1
  subst e
  refine ⟨hu2, ?_⟩
  have h4 := hg j f hj
  rw [hc1] at h4
  have h5 : (cs.toList.drop f.offset).take 1 = [c] := by
    have hlt := (List.getElem?_eq_some_iff.1 hc).1
    rw [List.drop_eq_getElem_cons hlt]
    have := (List.getElem?_eq_some_iff.1 hc).2
    simp [this]
  rw [h5] at h4
  have hjn : j < xs.length := by
    have := (Array.getElem?_eq_some_iff.1 hj).1
    omega
  rw [List.getElem?_eq_getElem hjn] at h4
  exact ⟨_, n, h4⟩

theorem mix_slice {P : Program} {T e : TypeId} {ks : List CK} {k : Nat} (ht : P.underlying T = some (.slice e)) (hk : kindsK P k e = some ks) (hc : P.cellsOf e = ks.length) (h0 : ks.length ≠ 0) {H : Type} {enc : TypeId × Value → H} {w : World} {base base' : Nat} {held : Bool} {c : Value}
    (h : Cell.okWide P w .any base' T c ∧ ∃ x fuel, DataW.trod enc P w base (fun _ => true) held fuel T [c] = some x) : SlOk w ks c := by
  obtain ⟨hv, ⟨d, ps⟩, fuel, hf⟩ := h
  have hv2 : Value.okWide P w .any base' T c := by simp only [Value.okWide, ht]; exact hv
  obtain ⟨a, len, cap, rfl⟩ := okWide_slice ht hv2
  exact arg_slice ht hk hc h0 hv2 ⟨fuel, hf⟩
theorem mix_int {P : Program} {T : TypeId} {k : IntKind} (ht : P.underlying T = some (.int k)) {H : Type} {enc : TypeId × Value → H} {w : World} {base base' : Nat} {held : Bool} {c : Value}
    (h : Cell.okWide P w .any base' T c ∧ ∃ x fuel, DataW.trod enc P w base (fun _ => true) held fuel T [c] = some x) : ∃ n, c = .int k n ∧ k.min ≤ n ∧ n ≤ k.max := by
  obtain ⟨hv, x, fuel, hf⟩ := h
  obtain ⟨n, e, _, hw⟩ := DataW.trod_int ht hf
  obtain rfl := (List.cons.inj e).1
  exact ⟨n, rfl, has_of_wf hw⟩
theorem mix_bool {P : Program} {T : TypeId} (ht : P.underlying T = some .bool) {H : Type} {enc : TypeId × Value → H} {w : World} {base base' : Nat} {held : Bool} {c : Value}
    (h : Cell.okWide P w .any base' T c ∧ ∃ x fuel, DataW.trod enc P w base (fun _ => true) held fuel T [c] = some x) : ∃ b, c = .bool b := by
  obtain ⟨hv, x, fuel, hf⟩ := h
  obtain ⟨b, e, _⟩ := DataW.trod_bool ht hf
  obtain rfl := (List.cons.inj e).1
  exact ⟨b, rfl⟩

/-- A slice cell, laid into the evaluator's memory under the number n. -/
theorem mix_lay {ρ : Loc} {n : Nat} {w : World} {m : Mem} (hm : MRel ρ n w m) (hh : Held m) {ks : List CK} {v : Value} (h : SlOk w ks v) :
    ∃ (ρ' : Loc) (n' : Nat) (m' : Mem) (c : Cell), MRel ρ' n' w m' ∧ Held m' ∧ Le ρ n w ρ' n' w ∧ CRel ρ' n' w c v ∧ (∀ id, id < n → m' id = m id) ∧ n' = n + 1 ∧
      ((c = .sc (.slice none 0 0) ∧ v = .slice none 0 0) ∨ ∃ len cap vs, c = .sl n 0 len none ks.length ∧ len ≤ cap ∧ cap ≤ maxLen ∧ RowsOk ks cap vs ∧ m' n = some ⟨vs.map .sc, false⟩) := by
  rcases h with rfl | ⟨b, o, len, cap, vs, rfl, hb, hl, hm2, hr, hc⟩
  · have hmm : MRel ρ (n + 1) w m := by
      refine ⟨fun id bl h => by have := hm.lt id bl h; omega, hm.blk, fun id bl h i c hi => ?_, hm.soft, hm.apart⟩
      obtain ⟨x, h1, h2⟩ := hm.cells id bl h i c hi
      exact ⟨x, h1, CRel.mono ⟨by omega, fun _ _ => rfl, fun _ h => h⟩ _ _ h2⟩
    exact ⟨ρ, n + 1, m, .sc (.slice none 0 0), hmm, hh, ⟨by omega, fun _ _ => rfl, fun _ h => h⟩, by simp [CRel, Value.oneCell'], fun _ _ => rfl, rfl, Or.inl ⟨rfl, rfl⟩⟩
  · have hlen : vs.length = cap * ks.length := by
      have := hr.len
      simpa using this
    have hs := addSl (ρ := ρ) (n := n) (w := w) (len := len) (sz := ks.length) hl hlen hc
    exact ⟨atL ρ n b o, n + 1, _, .sl n 0 len none ks.length, addRow hm hh hb hr hc, held_upd hh n _, atL_le, hs, fun id hid => upd_ne _ _ (by omega), rfl, Or.inr ⟨len, cap, vs, rfl, hl, hm2, hr, upd_same _ _ _⟩⟩

/- Subpaths as_ arguments, opened. Conditions: those that each theorem names. -/
open Go Go.Proofs Go.RowKit Go.ChangeShapes Go.WideShapes Go.Deep
set_option linter.unusedVariables false

theorem pts_of {cap : Nat} {vs : List Value} (h : RowsOk [.int .i64, .int .i64] cap vs) : ∃ l : List Pt, l.length = cap ∧ vs.map .sc = l.flatMap Pt.cs := by
  unfold RowsOk at h
  induction cap generalizing vs with
  | zero => simp only [List.replicate_zero, List.flatten_nil, CksOk] at h; subst h; exact ⟨[], rfl, rfl⟩
  | succ k ih =>
    rw [List.replicate_succ, List.flatten_cons] at h
    simp only [List.cons_append, List.nil_append, CksOk] at h
    obtain ⟨x, r, rfl, h1, y, r', rfl, h2, h3⟩ := h
    obtain ⟨l, e1, e2⟩ := ih h3
    exact ⟨⟨x, y⟩ :: l, by simp [e1], by simp [e2, Pt.cs]⟩
/-- A slice of points, laid: it is read. -/
theorem pts_rl {m : Mem} {n : Nat} {c : Cell} {v : Value} (h : (c = .sc (.slice none 0 0) ∧ v = .slice none 0 0) ∨ ∃ len cap vs, c = .sl n 0 len none [CK.int .i64, CK.int .i64].length ∧ len ≤ cap ∧ cap ≤ maxLen ∧ RowsOk [.int .i64, .int .i64] cap vs ∧ m n = some ⟨vs.map .sc, false⟩) :
    ∃ l : List Pt, RPt m (n + 1) (.one c) l := by
  rcases h with ⟨rfl, _⟩ | ⟨len, cap, vs, rfl, h1, _, h2, h3⟩
  · exact ⟨[], Or.inl ⟨rfl, rfl⟩⟩
  · obtain ⟨l, e1, e2⟩ := pts_of h2
    have hlen : (l.take len).length = len := by rw [List.length_take]; omega
    refine ⟨l.take len, Or.inr ⟨n, 0, none, by rw [hlen]; rfl, by omega, ?_⟩⟩
    rw [rd_of h3, hlen, e2]
    have e4 : (l.flatMap Pt.cs).length = cap * 2 := by rw [flatMap_len Pt.cs 2 cs2, e1]
    unfold rdB
    rw [if_pos (by show 0 + len * 2 ≤ (l.flatMap Pt.cs).length; rw [e4]; omega), List.drop_zero]
    congr 1
    have : ∀ (l : List Pt) (k : Nat), (l.flatMap Pt.cs).take (k * 2) = (l.take k).flatMap Pt.cs := by
      intro l
      induction l with
      | nil => intro k; simp
      | cons x l ih =>
        intro k
        cases k with
        | zero => simp
        | succ k =>
          rw [show (k + 1) * 2 = k * 2 + 1 + 1 by omega]
          simp [ih k]
    exact this l len
set_option maxRecDepth 100000 in
theorem open33 {H : Type} {enc : TypeId × Value → H} {w : World} {base base' : Nat} {held : Bool} {v : Value} {d : DataW H} {ps : List MemPlace} (hv : Value.okWide Try.prog w .any base' 33 v) (h : DataW.Trod enc Try.prog w base (fun _ => true) held 33 v d ps) :
    ∃ c b, v = .agg #[c, .bool b] ∧ SlOk w [.int .i64, .int .i64] c := by
  obtain ⟨cs, rfl, hl, hf⟩ := arg_mix (ts := [31, 4]) Try.underlying33 (by kernel_rfl) hv h
  rw [show Try.prog.cellsOf 33 = 2 by kernel_rfl] at hl
  match cs, hl with
  | [c, p], _ =>
    have h0 := hf 0 _ c rfl (by kernel_rfl) (fun u hu => (Option.some.inj hu).symm) rfl
    have h1 := hf 1 _ p rfl (by kernel_rfl) (fun u hu => (Option.some.inj hu).symm) rfl
    obtain ⟨b, rfl⟩ := mix_bool Try.underlying4 h1
    exact ⟨c, b, rfl, mix_slice (k := 8) Try.underlying31 (by kernel_rfl) (by kernel_rfl) (by decide) h0⟩

/- Patterns as_ arguments, opened. Conditions: those that each theorem names. -/
open Go Go.Proofs Go.RowKit Go.ChangeShapes Go.WideShapes Go.Deep
set_option linter.unusedVariables false

theorem ints_of {cap : Nat} {vs : List Value} (h : RowsOk [.int .i64] cap vs) : ∃ l : List Int, l.length = cap ∧ vs.map .sc = l.flatMap encI ∧ ∀ x ∈ l, -9223372036854775808 ≤ x ∧ x ≤ 9223372036854775807 := by
  unfold RowsOk at h
  induction cap generalizing vs with
  | zero => simp only [List.replicate_zero, List.flatten_nil, CksOk] at h; subst h; exact ⟨[], rfl, rfl, by simp⟩
  | succ k ih =>
    rw [List.replicate_succ, List.flatten_cons] at h
    simp only [List.cons_append, List.nil_append, CksOk] at h
    obtain ⟨n, r, rfl, h1, h2⟩ := h
    obtain ⟨l, e1, e2, e3⟩ := ih h2
    simp only [IntKind.min, IntKind.max, IntKind.signed, IntKind.bits] at h1
    refine ⟨n :: l, by simp [e1], by simp [e2], fun x hx => ?_⟩
    rcases List.mem_cons.1 hx with rfl | hx
    · simp at h1; omega
    · exact e3 x hx
/-- A slice of ints, laid: it is read. -/
theorem ints_rl {m : Mem} {n : Nat} {c : Cell} {v : Value} (h : (c = .sc (.slice none 0 0) ∧ v = .slice none 0 0) ∨ ∃ len cap vs, c = .sl n 0 len none [CK.int .i64].length ∧ len ≤ cap ∧ cap ≤ maxLen ∧ RowsOk [.int .i64] cap vs ∧ m n = some ⟨vs.map .sc, false⟩) :
    ∃ l : List Int, RIn m (n + 1) (.one c) l ∧ ∀ x ∈ l, -9223372036854775808 ≤ x ∧ x ≤ 9223372036854775807 := by
  rcases h with ⟨rfl, _⟩ | ⟨len, cap, vs, rfl, h1, _, h2, h3⟩
  · exact ⟨[], Or.inl ⟨rfl, rfl⟩, by simp⟩
  · obtain ⟨l, e1, e2, e3⟩ := ints_of h2
    have hlen : (l.take len).length = len := by rw [List.length_take]; omega
    refine ⟨l.take len, Or.inr ⟨n, 0, none, by rw [hlen]; rfl, by omega, ?_⟩, fun x hx => e3 x (List.mem_of_mem_take hx)⟩
    rw [rd_of h3, hlen, e2]
    have e4 : (l.flatMap encI).length = cap := by rw [flatMap_len encI 1 ci1, e1, Nat.mul_one]
    unfold rdB
    rw [if_pos (by rw [e4]; omega), List.drop_zero, Nat.mul_one]
    congr 1
    have : ∀ (l : List Int) (k : Nat), (l.flatMap encI).take k = (l.take k).flatMap encI := by
      intro l
      induction l with
      | nil => intro k; simp
      | cons x l ih =>
        intro k
        cases k with
        | zero => simp
        | succ k => simp [ih k]
    exact this l len
set_option maxRecDepth 100000 in
theorem open24 {H : Type} {enc : TypeId × Value → H} {w : World} {base base' : Nat} {held : Bool} {v : Value} {d : DataW H} {ps : List MemPlace} (hv : Value.okWide Try.prog w .any base' 24 v) (h : DataW.Trod enc Try.prog w base (fun _ => true) held 24 v d ps) :
    ∃ c ph, v = .agg #[c, .int .i64 ph] ∧ (-9223372036854775808 ≤ ph ∧ ph ≤ 9223372036854775807) ∧ SlOk w [.int .i64] c := by
  obtain ⟨cs, rfl, hl, hf⟩ := arg_mix (ts := [22, 3]) Try.underlying24 (by kernel_rfl) hv h
  rw [show Try.prog.cellsOf 24 = 2 by kernel_rfl] at hl
  match cs, hl with
  | [c, p], _ =>
    have h0 := hf 0 _ c rfl (by kernel_rfl) (fun u hu => (Option.some.inj hu).symm) rfl
    have h1 := hf 1 _ p rfl (by kernel_rfl) (fun u hu => (Option.some.inj hu).symm) rfl
    obtain ⟨ph, rfl, h2, h3⟩ := mix_int Try.underlying3 h1
    refine ⟨c, ph, rfl, ?_, mix_slice (k := 8) Try.underlying22 (by kernel_rfl) (by kernel_rfl) (by decide) h0⟩
    simp only [IntKind.min, IntKind.max, IntKind.signed, IntKind.bits] at h2 h3
    simp at h2 h3
    omega

/- A subpath and a pattern, laid. Conditions: those that each theorem names. -/
open Go Go.Proofs Go.RowKit Go.ChangeShapes Go.WideShapes Go.Deep
set_option linter.unusedVariables false

/-- A subpath and a pattern, laid. -/
theorem sub_pat_lay {W : World} {v1 v2 : Value} (h1 : ∃ c b, v1 = .agg #[c, .bool b] ∧ SlOk W [.int .i64, .int .i64] c) (h2 : ∃ c ph, v2 = .agg #[c, .int .i64 ph] ∧ (-9223372036854775808 ≤ ph ∧ ph ≤ 9223372036854775807) ∧ SlOk W [.int .i64] c) :
    ∃ (c0 pc : Cell) (l : List Pt) (c : Bool) (pat : List Int) (ph : Int) (ρ : Loc) (m : Mem), MRel ρ 2 W m ∧ Held m ∧ RPt m 2 (.one c0) l ∧ RIn m 2 (.one pc) pat ∧ RRel ρ 2 W (.agg [c0, .sc (.bool c)]) v1 ∧ RRel ρ 2 W (.agg [pc, I ph]) v2 := by
  obtain ⟨a, b, rfl, hs1⟩ := h1
  obtain ⟨d, ph, rfl, _, hs2⟩ := h2
  obtain ⟨ρ1, n1, m1, k1, hm1, hh1, le1, hc1, old1, rfl, q1⟩ := mix_lay (noMem (fun _ => (0, 0)) 0 W) held_none hs1
  obtain ⟨ρ2, n2, m2, k2, hm2, hh2, le2, hc2, old2, rfl, q2⟩ := mix_lay hm1 hh1 hs2
  obtain ⟨l, r1⟩ := pts_rl q1
  obtain ⟨pat, r2, _⟩ := ints_rl q2
  exact ⟨k1, k2, l, b, pat, ph, ρ2, m2, hm2, hh2, r1.keep (by omega) (fun id hid => old2 id (by omega)), r2, ⟨_, rfl, _, _, rfl, CRel.mono le2 _ _ hc1, _, _, rfl, ⟨rfl, rfl⟩, rfl⟩, _, rfl, _, _, rfl, hc2, _, _, rfl, ⟨rfl, rfl⟩, rfl⟩

/- The row DashPieces. Conditions: those that each theorem names. -/
open Go Go.Proofs
open Go.RowKit Go.ChangeShapes Go.WideShapes Go.Deep
set_option linter.unusedVariables false

theorem rowL5 (hmix : Try.prog.follows .mixedOrders = true) (W : World) (v1 : Value) (h1 : ∃ c b, v1 = .agg #[c, .bool b] ∧ SlOk W [.int .i64, .int .i64] c) (v2 : Value) (h2 : ∃ c ph, v2 = .agg #[c, .int .i64 ph] ∧ (-9223372036854775808 ≤ ph ∧ ph ≤ 9223372036854775807) ∧ SlOk W [.int .i64] c) :
    Calls Try.prog 5 #[v1, v2] W (fun e w' => e = .returned (.bool true) ∧ Go.RowKit.Below W.heap.size W w') := by
  obtain ⟨c0, pc, l, c, pat, ph, ρ, m, hm, hh, r1, r2, q1, q2⟩ := sub_pat_lay h1 h2
  exact law_calls (ng := 0) (ρ := ρ) (n := 2) hmix TA_ok (law5 c0 pc l c pat ph m 2 r1 r2) hm (fun _ h => by omega) ⟨_, _, rfl, q1, _, _, rfl, q2, rfl⟩ hh

end Go.Proofs.Ytoakdmjpbachdaa.Sy
