/- A path is right: the reference's check walked. Conditions: those that each theorem names. -/
import Derived.Test.YtpleidpbapgmiaaDoorPaC
namespace Go.Proofs.YtpleidpbapgmiaaDoor.Sy
open Go Go.Proofs
set_option linter.unusedSimpArgs false
set_option linter.unusedVariables false
set_option maxRecDepth 20000
attribute [local go_sem] XK_seq XK_block XK_skip XK_exit XK_ret XK_cond XK_reg XK_dreg XK_ureg KN_seq KN_blk KN_lp KN_chk KN_chku KN_top KN_fin KX_seq KX_lp KX_blk KX_chk KX_top KR_seq KR_blk KR_lp KR_chk KR_top KR_fin FK_true FK_false RK_nil RK_mv RK_pick RK_alloc RK_box RK_build RK_bslice RK_load1 RK_loadA RK_store RK_nilchk RK_bin RK_beq RK_eqv RK_eqnil RK_un RK_conv RK_mkfn RK_mkslice RK_slS RK_slA RK_fadr RK_fld RK_iadrA RK_iadrS RK_idxA RK_ext RK_lenC RK_cap RK_app RK_appz RK_cpy RK_mn RK_mx RK_len RK_carry RK_clr carryR um0 um1 ThenK_some RK_guard GK_tt GK_ff GK_tf GK_ft GK_none QK_some RK_callQ RK_callZ RK_callT TK_some VK_clo RK_callV
  evalOp evO evOs upd_at unfrz_at putE_some putE_none boolOf_b boolOf_tup Option.map_some evRes pack_one pack_two pack_three pack_none List.getD_cons_zero List.getD_cons_succ getD_nil
  Option.some.injEq exists_eq_left' Reg.cs? fillC setL List.set_cons_zero List.set_cons_succ List.length_cons List.length_nil rd_upd rd_updn rdB wr List.drop_zero List.drop_succ_cons List.take_succ_cons List.take_zero List.getElem?_cons_zero List.getElem?_cons_succ
  ix Int.toNat_zero lenO_sl lenO_nil nadd na_eq na_eq' na_lt na_ee na_ll na_ne na_ne' na_tt
attribute [local go_sem] Reg.flat_one Reg.flat_agg Reg.flat_tup flats_nil flats_cons Cell.flat_sc Cell.flat_ptr List.all_cons List.all_nil disOk safeOk safeR decide_eq_true_eq decide_eq_false_iff_not
  List.map_cons List.map_nil List.cons_append List.nil_append List.append_nil evalOp.capsOf Bool.false_bne Bool.bne_false Bool.true_bne Bool.bne_true bne_self_eq_false beq_self_eq_true Bool.not_not Bool.false_and Bool.and_false Bool.true_or Bool.or_true beq_iff_eq eqCells
  Bool.true_beq Bool.false_beq Bool.not_eq_true' Bool.not_eq_eq_eq_not Bool.not_eq_false' and_false false_and frz_at idOf noId Option.isSome_some Bool.and_eq_true
attribute [local go_sem] wr_eq bV_add bV_sub bV_mul bV_eql bV_neq bV_lss bV_leq bV_gtr bV_geq bV_quo bV_rem bV_shr bV_shl uV_not uV_neg wrapU bits_and bits_or bits_xor IntKind.bits Nat.min_eq_left Nat.min_eq_right Nat.min_self
attribute [local go_sem] bne_iff_ne Int.cast_ofNat_Int Nat.zero_add Nat.add_zero and_self and_true true_and ne_eq not_false_eq_true not_true_eq_false decide_true decide_false Bool.false_eq_true Bool.not_true Bool.not_false Bool.true_and Bool.and_true Bool.or_false Bool.false_or Bool.and_self

def opAt (l : List Sg) : Nat → Bool
  | 0 => false
  | j + 1 => match l[j]? with
    | some s => !decide (s.k = 5)
    | none => false
set_option maxHeartbeats 4000000 in
theorem v_rCheck {r : Reg} {l : List Sg} {m : Mem} {n : Nat} (hr : RSg m n r l) : callF TA 11 [r] m n = some (RI (chkP l)) := by
  refine callF_of (Fn_ofK (fn := F11) rfl (by simp [F11]) ?_)
  have hlen := hr.len
  by_cases g : 4096 < (l.length : Int)
  · have e : chkP l = 36 := if_pos (by omega)
    try simp only [r11_0, r11_1, r11_2, r11_3, r11_4, r11_6, r11_7, r11_8, r11_9, r11_10, r11_12, r11_13, r11_11, r11_14, r11_15, r11_17, r11_18, r11_16, r11_5, r11_19, c11, F11, hlen, g, e, go_sem, Int.reduceTMod, Int.reduceTDiv, Int.reduceDiv, Int.reduceMod, Int.reduceAdd, Int.reduceSub, Int.reduceMul, Int.reduceNeg, Int.reducePow, Int.reduceEq, ↓reduceIte, Nat.reduceEqDiff, Nat.reduceAdd, Nat.reduceMul, Nat.reduceLeDiff, Nat.reduceSub, Nat.reduceLT, Int.reduceToNat, Int.reduceLT, Int.reduceLE, reduceCtorEq]
    repeat' ((first | refine FK_split (fun h_ => ?_) (fun h_ => ?_) | refine GK_split (fun h_ => ?_) (fun h_ => ?_) | refine ite_both (fun h_ => ?_) (fun h_ => ?_)) <;> (try simp only [decide_eq_true_eq, decide_eq_false_iff_not, Bool.not_true, Bool.not_false, Bool.not_eq_true', Bool.not_eq_false', Bool.not_eq_eq_eq_not, Decidable.not_not] at h_) <;> (try simp only [r11_0, r11_1, r11_2, r11_3, r11_4, r11_6, r11_7, r11_8, r11_9, r11_10, r11_12, r11_13, r11_11, r11_14, r11_15, r11_17, r11_18, r11_16, r11_5, r11_19, c11, F11, hlen, g, e, h_, go_sem, Int.reduceTMod, Int.reduceTDiv, Int.reduceDiv, Int.reduceMod, Int.reduceAdd, Int.reduceSub, Int.reduceMul, Int.reduceNeg, Int.reducePow, Int.reduceEq, ↓reduceIte, Nat.reduceEqDiff, Nat.reduceAdd, Nat.reduceMul, Nat.reduceLeDiff, Nat.reduceSub, Nat.reduceLT, Int.reduceToNat, Int.reduceLT, Int.reduceLE, reduceCtorEq]))
  have hP : chkP l = chkL false l := if_neg (by omega)
  try simp only [r11_0, r11_1, r11_2, r11_3, r11_4, r11_6, r11_7, r11_8, r11_9, r11_10, r11_12, r11_13, r11_11, r11_14, r11_15, r11_17, r11_18, r11_16, r11_5, r11_19, c11, F11, hlen, g, go_sem, Int.reduceTMod, Int.reduceTDiv, Int.reduceDiv, Int.reduceMod, Int.reduceAdd, Int.reduceSub, Int.reduceMul, Int.reduceNeg, Int.reducePow, Int.reduceEq, ↓reduceIte, Nat.reduceEqDiff, Nat.reduceAdd, Nat.reduceMul, Nat.reduceLeDiff, Nat.reduceSub, Nat.reduceLT, Int.reduceToNat, Int.reduceLT, Int.reduceLE, reduceCtorEq]
  repeat' ((first | refine FK_split (fun h_ => ?_) (fun h_ => ?_) | refine GK_split (fun h_ => ?_) (fun h_ => ?_) | refine ite_both (fun h_ => ?_) (fun h_ => ?_)) <;> (try simp only [decide_eq_true_eq, decide_eq_false_iff_not, Bool.not_true, Bool.not_false, Bool.not_eq_true', Bool.not_eq_false', Bool.not_eq_eq_eq_not, Decidable.not_not] at h_) <;> (try simp only [r11_0, r11_1, r11_2, r11_3, r11_4, r11_6, r11_7, r11_8, r11_9, r11_10, r11_12, r11_13, r11_11, r11_14, r11_15, r11_17, r11_18, r11_16, r11_5, r11_19, c11, F11, hlen, g, h_, go_sem, Int.reduceTMod, Int.reduceTDiv, Int.reduceDiv, Int.reduceMod, Int.reduceAdd, Int.reduceSub, Int.reduceMul, Int.reduceNeg, Int.reducePow, Int.reduceEq, ↓reduceIte, Nat.reduceEqDiff, Nat.reduceAdd, Nat.reduceMul, Nat.reduceLeDiff, Nat.reduceSub, Nat.reduceLT, Int.reduceToNat, Int.reduceLT, Int.reduceLE, reduceCtorEq]))
  refine XK_iter (inv := fun i s => s.e 3 = RI i ∧ s.e 0 = r ∧ n ≤ s.n ∧ (∀ id, id < n → s.m id = m id) ∧ chkL false l = chkL (opAt l i) (l.drop i)) l.length
    (fun L _ => ⟨fun i hi s hs next => ?_, fun s hs => ?_⟩) 0 (by omega) _ ⟨?_, ?_, Nat.le_refl _, fun _ _ => rfl, rfl⟩
  · obtain ⟨e, M, N⟩ := s
    obtain ⟨q3, q0, qn, qm, qc⟩ := hs
    simp only at q3 q0 qn qm
    have hp : l[i]? = some l[i] := List.getElem?_eq_getElem hi
    obtain ⟨id, off, cap, hr1, hid, hrd⟩ := (hr.keep qn qm).at cs7 hp
    have hop1 : opAt l (i + 1) = !decide (l[i].k = 5) := by simp only [opAt, hp]
    rw [chkL_at hp, ← hop1] at qc
    generalize l[i] = sg at *
    have c2 : ((i : Int) < (l.length : Int)) = True := eq_true (by omega)
    have c3 : (0 ≤ (i : Int)) = True := eq_true (by omega)
    have c7 : IntKind.i64.wrap ((i : Int) + 1) = ((i + 1 : Nat) : Int) := wr_nat (by omega)
    have q0' := q0
    rw [hr1] at q0' hlen
    -- the kind
    by_cases hk1 : sg.k < 1
    · have e33 : chkP l = 33 := by
        rw [hP, qc]
        simp [chkS, badK, hk1]
      try simp only [r11_0, r11_1, r11_2, r11_3, r11_4, r11_6, r11_7, r11_8, r11_9, r11_10, r11_12, r11_13, r11_11, r11_14, r11_15, r11_17, r11_18, r11_16, r11_5, r11_19, c11, F11, l11_0, l11_1, l11_2, q3, q0', hlen, c2, c3, hrd, hk1, e33, Int.toNat_natCast, go_sem, Int.reduceTMod, Int.reduceTDiv, Int.reduceDiv, Int.reduceMod, Int.reduceAdd, Int.reduceSub, Int.reduceMul, Int.reduceNeg, Int.reducePow, Int.reduceEq, ↓reduceIte, Nat.reduceEqDiff, Nat.reduceAdd, Nat.reduceMul, Nat.reduceLeDiff, Nat.reduceSub, Nat.reduceLT, Int.reduceToNat, Int.reduceLT, Int.reduceLE, reduceCtorEq]
      repeat' ((first | refine FK_split (fun h_ => ?_) (fun h_ => ?_) | refine GK_split (fun h_ => ?_) (fun h_ => ?_) | refine ite_both (fun h_ => ?_) (fun h_ => ?_)) <;> (try simp only [decide_eq_true_eq, decide_eq_false_iff_not, Bool.not_true, Bool.not_false, Bool.not_eq_true', Bool.not_eq_false', Bool.not_eq_eq_eq_not, Decidable.not_not] at h_) <;> (try simp only [r11_0, r11_1, r11_2, r11_3, r11_4, r11_6, r11_7, r11_8, r11_9, r11_10, r11_12, r11_13, r11_11, r11_14, r11_15, r11_17, r11_18, r11_16, r11_5, r11_19, c11, F11, l11_0, l11_1, l11_2, q3, q0', hlen, c2, c3, hrd, hk1, e33, Int.toNat_natCast, h_, go_sem, Int.reduceTMod, Int.reduceTDiv, Int.reduceDiv, Int.reduceMod, Int.reduceAdd, Int.reduceSub, Int.reduceMul, Int.reduceNeg, Int.reducePow, Int.reduceEq, ↓reduceIte, Nat.reduceEqDiff, Nat.reduceAdd, Nat.reduceMul, Nat.reduceLeDiff, Nat.reduceSub, Nat.reduceLT, Int.reduceToNat, Int.reduceLT, Int.reduceLE, reduceCtorEq]))
    by_cases hk2 : 5 < sg.k
    · have e33 : chkP l = 33 := by
        rw [hP, qc]
        simp [chkS, badK, hk2]
      try simp only [r11_0, r11_1, r11_2, r11_3, r11_4, r11_6, r11_7, r11_8, r11_9, r11_10, r11_12, r11_13, r11_11, r11_14, r11_15, r11_17, r11_18, r11_16, r11_5, r11_19, c11, F11, l11_0, l11_1, l11_2, q3, q0', hlen, c2, c3, hrd, hk1, hk2, e33, Int.toNat_natCast, go_sem, Int.reduceTMod, Int.reduceTDiv, Int.reduceDiv, Int.reduceMod, Int.reduceAdd, Int.reduceSub, Int.reduceMul, Int.reduceNeg, Int.reducePow, Int.reduceEq, ↓reduceIte, Nat.reduceEqDiff, Nat.reduceAdd, Nat.reduceMul, Nat.reduceLeDiff, Nat.reduceSub, Nat.reduceLT, Int.reduceToNat, Int.reduceLT, Int.reduceLE, reduceCtorEq]
      repeat' ((first | refine FK_split (fun h_ => ?_) (fun h_ => ?_) | refine GK_split (fun h_ => ?_) (fun h_ => ?_) | refine ite_both (fun h_ => ?_) (fun h_ => ?_)) <;> (try simp only [decide_eq_true_eq, decide_eq_false_iff_not, Bool.not_true, Bool.not_false, Bool.not_eq_true', Bool.not_eq_false', Bool.not_eq_eq_eq_not, Decidable.not_not] at h_) <;> (try simp only [r11_0, r11_1, r11_2, r11_3, r11_4, r11_6, r11_7, r11_8, r11_9, r11_10, r11_12, r11_13, r11_11, r11_14, r11_15, r11_17, r11_18, r11_16, r11_5, r11_19, c11, F11, l11_0, l11_1, l11_2, q3, q0', hlen, c2, c3, hrd, hk1, hk2, e33, Int.toNat_natCast, h_, go_sem, Int.reduceTMod, Int.reduceTDiv, Int.reduceDiv, Int.reduceMod, Int.reduceAdd, Int.reduceSub, Int.reduceMul, Int.reduceNeg, Int.reducePow, Int.reduceEq, ↓reduceIte, Nat.reduceEqDiff, Nat.reduceAdd, Nat.reduceMul, Nat.reduceLeDiff, Nat.reduceSub, Nat.reduceLT, Int.reduceToNat, Int.reduceLT, Int.reduceLE, reduceCtorEq]))
    have hpv : i ≠ 0 → ∃ (b : Blk) (sp : Sg), M id = some b ∧ b.cells[off + (i - 1) * 7]? = some (I sp.k) ∧ opAt l i = !decide (sp.k = 5) := by
      intro h
      obtain ⟨j, rfl⟩ : ∃ j, i = j + 1 := ⟨i - 1, by omega⟩
      have hp' : l[j]? = some l[j] := List.getElem?_eq_getElem (by omega)
      obtain ⟨id', off', cap', hr1', _, hrd'⟩ := (hr.keep qn qm).at cs7 hp'
      rw [hr1] at hr1'
      simp only [Reg.one.injEq, Cell.sl.injEq, true_and, and_true] at hr1'
      obtain ⟨rfl, rfl, _⟩ := hr1'
      obtain ⟨b, h1, h2⟩ := rd_cell hrd' (a := 0) (c := I l[j].k) rfl
      exact ⟨b, l[j], h1, by simpa using h2, by simp only [opAt, hp']⟩
    have lo : ∀ id, id < n → (id = N) = False := fun id h => eq_false (by omega)
    have hend : ∀ s' : St, s'.e 3 = RI ((i + 1 : Nat) : Int) → s'.e 0 = r → N ≤ s'.n → (∀ id, id < n → s'.m id = m id) → badK (opAt l i) sg = false → badU sg = false → badR sg = false → XK TA (.loop L) s' (Kt.blk 0 (Kt.seq ((SC.reg r11_19).seq SC.ret) (Kt.fin [SRes.tmp 2] fun r x x_1 => r = RI (chkP l)))) := by
      intro s' p3 p0 pn pm hK hU hR
      have e5 : chkS (opAt l i) sg = 0 := by unfold chkS; rw [hK, hU, hR]; rfl
      rw [e5, if_pos rfl] at qc
      exact next s' ⟨p3, p0, by omega, pm, qc⟩
    have h33 : badK (opAt l i) sg = false → badU sg = true → chkP l = 33 := fun hK hU => by
      rw [hP, qc]
      simp only [chkS, hK, hU, Bool.false_eq_true, if_false, if_true]
      rfl
    have h30 : badK (opAt l i) sg = false → badU sg = false → badR sg = true → chkP l = 30 := fun hK hU hR => by
      rw [hP, qc]
      simp only [chkS, hK, hU, hR, Bool.false_eq_true, if_false, if_true]
      rfl
    have hopt : (i = 0 ∧ opAt l i = false) ∨ (i ≠ 0 ∧ ∃ (b : Blk) (pk : Int), M id = some b ∧ b.cells[off + (i - 1) * 7]? = some (I pk) ∧ opAt l i = !decide (pk = 5)) := by
      by_cases hi0 : i = 0
      · exact Or.inl ⟨hi0, by rw [hi0]; rfl⟩
      · obtain ⟨b, sp, h1, h2, h3⟩ := hpv hi0
        exact Or.inr ⟨hi0, b, sp.k, h1, h2, h3⟩
    clear hpv next
    obtain ⟨k, a, b, c⟩ := sg
    simp only at hk1 hk2 hop1
    rcases hopt with ⟨hi0, hop⟩ | ⟨hi0, pb, pk, hpb, hpc, hop⟩
    · have ci : ((i : Int) = 0) = True := eq_true (by omega)
      rw [hop] at hend h33 h30 qc
      by_cases hk : k = 1
      · have hK : badK false ⟨k, a, b, c⟩ = false := by simp [badK, hk]
        try simp only [r11_0, r11_1, r11_2, r11_3, r11_4, r11_6, r11_7, r11_8, r11_9, r11_10, r11_12, r11_13, r11_11, r11_14, r11_15, r11_17, r11_18, r11_16, r11_5, r11_19, c11, F11, l11_2, q3, q0', hlen, c2, c3, hrd, hk, Int.toNat_natCast, go_sem, Int.reduceTMod, Int.reduceTDiv, Int.reduceDiv, Int.reduceMod, Int.reduceAdd, Int.reduceSub, Int.reduceMul, Int.reduceNeg, Int.reducePow, Int.reduceEq, ↓reduceIte, Nat.reduceEqDiff, Nat.reduceAdd, Nat.reduceMul, Nat.reduceLeDiff, Nat.reduceSub, Nat.reduceLT, Int.reduceToNat, Int.reduceLT, Int.reduceLE, reduceCtorEq]
        repeat' ((first | refine FK_split (fun h_ => ?_) (fun h_ => ?_) | refine GK_split (fun h_ => ?_) (fun h_ => ?_) | refine ite_both (fun h_ => ?_) (fun h_ => ?_)) <;> (try simp only [decide_eq_true_eq, decide_eq_false_iff_not, Bool.not_true, Bool.not_false, Bool.not_eq_true', Bool.not_eq_false', Bool.not_eq_eq_eq_not, Decidable.not_not] at h_) <;> (try simp only [r11_0, r11_1, r11_2, r11_3, r11_4, r11_6, r11_7, r11_8, r11_9, r11_10, r11_12, r11_13, r11_11, r11_14, r11_15, r11_17, r11_18, r11_16, r11_5, r11_19, c11, F11, l11_2, q3, q0', hlen, c2, c3, hrd, hk, Int.toNat_natCast, h_, go_sem, Int.reduceTMod, Int.reduceTDiv, Int.reduceDiv, Int.reduceMod, Int.reduceAdd, Int.reduceSub, Int.reduceMul, Int.reduceNeg, Int.reducePow, Int.reduceEq, ↓reduceIte, Nat.reduceEqDiff, Nat.reduceAdd, Nat.reduceMul, Nat.reduceLeDiff, Nat.reduceSub, Nat.reduceLT, Int.reduceToNat, Int.reduceLT, Int.reduceLE, reduceCtorEq]))
        try simp only [r11_0, r11_1, r11_2, r11_3, r11_4, r11_6, r11_7, r11_8, r11_9, r11_10, r11_12, r11_13, r11_11, r11_14, r11_15, r11_17, r11_18, r11_16, r11_5, r11_19, c11, F11, l11_0, l11_1, XK_loop, v_rNeed, v_rIn, hk, need1, c7, q3, go_sem, Int.reduceTMod, Int.reduceTDiv, Int.reduceDiv, Int.reduceMod, Int.reduceAdd, Int.reduceSub, Int.reduceMul, Int.reduceNeg, Int.reducePow, Int.reduceEq, ↓reduceIte, Nat.reduceEqDiff, Nat.reduceAdd, Nat.reduceMul, Nat.reduceLeDiff, Nat.reduceSub, Nat.reduceLT, Int.reduceToNat, Int.reduceLT, Int.reduceLE, reduceCtorEq]
        repeat' ((first | refine FK_split (fun h_ => ?_) (fun h_ => ?_) | refine GK_split (fun h_ => ?_) (fun h_ => ?_) | refine ite_both (fun h_ => ?_) (fun h_ => ?_)) <;> (try simp only [decide_eq_true_eq, decide_eq_false_iff_not, Bool.not_true, Bool.not_false, Bool.not_eq_true', Bool.not_eq_false', Bool.not_eq_eq_eq_not, Decidable.not_not] at h_) <;> (try simp only [r11_0, r11_1, r11_2, r11_3, r11_4, r11_6, r11_7, r11_8, r11_9, r11_10, r11_12, r11_13, r11_11, r11_14, r11_15, r11_17, r11_18, r11_16, r11_5, r11_19, c11, F11, l11_0, l11_1, XK_loop, v_rNeed, v_rIn, hk, need1, c7, q3, h_, go_sem, Int.reduceTMod, Int.reduceTDiv, Int.reduceDiv, Int.reduceMod, Int.reduceAdd, Int.reduceSub, Int.reduceMul, Int.reduceNeg, Int.reducePow, Int.reduceEq, ↓reduceIte, Nat.reduceEqDiff, Nat.reduceAdd, Nat.reduceMul, Nat.reduceLeDiff, Nat.reduceSub, Nat.reduceLT, Int.reduceToNat, Int.reduceLT, Int.reduceLE, reduceCtorEq]))
        all_goals first
          | (rw [h33 hK (by simp [badU, Sg.pts, hk, need1, need2, need3, need4, need5, zP, *])]; done)
          | (rw [h30 hK (by simp [badU, Sg.pts, hk, need1, need2, need3, need4, need5, zP, *]) (by simp [badR, Sg.pts, hk, need1, need2, need3, need4, need5, inP, *])]; done)
          | (rw [← XK_loop]; refine hend _ ?_ ?_ ?_ ?_ hK (by simp [badU, Sg.pts, hk, need1, need2, need3, need4, need5, zP, *]) (by simp [badR, Sg.pts, hk, need1, need2, need3, need4, need5, inP, *])
             · simp only [go_sem, Int.reduceTMod, Int.reduceTDiv, Int.reduceDiv, Int.reduceMod, Int.reduceAdd, Int.reduceSub, Int.reduceMul, Int.reduceNeg, Int.reducePow, Int.reduceEq, ↓reduceIte, Nat.reduceEqDiff, Nat.reduceAdd, Nat.reduceMul, Nat.reduceLeDiff, Nat.reduceSub, Nat.reduceLT, Int.reduceToNat, Int.reduceLT, Int.reduceLE, reduceCtorEq]
             · simp only [q0, go_sem, Int.reduceTMod, Int.reduceTDiv, Int.reduceDiv, Int.reduceMod, Int.reduceAdd, Int.reduceSub, Int.reduceMul, Int.reduceNeg, Int.reducePow, Int.reduceEq, ↓reduceIte, Nat.reduceEqDiff, Nat.reduceAdd, Nat.reduceMul, Nat.reduceLeDiff, Nat.reduceSub, Nat.reduceLT, Int.reduceToNat, Int.reduceLT, Int.reduceLE, reduceCtorEq]
             · simp only; omega
             · intro id hid
               simp only [lo id hid, if_false, go_sem, Int.reduceTMod, Int.reduceTDiv, Int.reduceDiv, Int.reduceMod, Int.reduceAdd, Int.reduceSub, Int.reduceMul, Int.reduceNeg, Int.reducePow, Int.reduceEq, ↓reduceIte, Nat.reduceEqDiff, Nat.reduceAdd, Nat.reduceMul, Nat.reduceLeDiff, Nat.reduceSub, Nat.reduceLT, Int.reduceToNat, Int.reduceLT, Int.reduceLE, reduceCtorEq]
               exact qm id hid)
      · have e33 : chkP l = 33 := by
          rw [hP, qc]
          simp [chkS, badK, hk]
        try simp only [r11_0, r11_1, r11_2, r11_3, r11_4, r11_6, r11_7, r11_8, r11_9, r11_10, r11_12, r11_13, r11_11, r11_14, r11_15, r11_17, r11_18, r11_16, r11_5, r11_19, c11, F11, l11_2, q3, q0', hlen, c2, c3, ci, hrd, hk1, hk2, hk, e33, Int.toNat_natCast, go_sem, Int.reduceTMod, Int.reduceTDiv, Int.reduceDiv, Int.reduceMod, Int.reduceAdd, Int.reduceSub, Int.reduceMul, Int.reduceNeg, Int.reducePow, Int.reduceEq, ↓reduceIte, Nat.reduceEqDiff, Nat.reduceAdd, Nat.reduceMul, Nat.reduceLeDiff, Nat.reduceSub, Nat.reduceLT, Int.reduceToNat, Int.reduceLT, Int.reduceLE, reduceCtorEq]
        repeat' ((first | refine FK_split (fun h_ => ?_) (fun h_ => ?_) | refine GK_split (fun h_ => ?_) (fun h_ => ?_) | refine ite_both (fun h_ => ?_) (fun h_ => ?_)) <;> (try simp only [decide_eq_true_eq, decide_eq_false_iff_not, Bool.not_true, Bool.not_false, Bool.not_eq_true', Bool.not_eq_false', Bool.not_eq_eq_eq_not, Decidable.not_not] at h_) <;> (try simp only [r11_0, r11_1, r11_2, r11_3, r11_4, r11_6, r11_7, r11_8, r11_9, r11_10, r11_12, r11_13, r11_11, r11_14, r11_15, r11_17, r11_18, r11_16, r11_5, r11_19, c11, F11, l11_2, q3, q0', hlen, c2, c3, ci, hrd, hk1, hk2, hk, e33, Int.toNat_natCast, h_, go_sem, Int.reduceTMod, Int.reduceTDiv, Int.reduceDiv, Int.reduceMod, Int.reduceAdd, Int.reduceSub, Int.reduceMul, Int.reduceNeg, Int.reducePow, Int.reduceEq, ↓reduceIte, Nat.reduceEqDiff, Nat.reduceAdd, Nat.reduceMul, Nat.reduceLeDiff, Nat.reduceSub, Nat.reduceLT, Int.reduceToNat, Int.reduceLT, Int.reduceLE, reduceCtorEq]))
    · have ci : ((i : Int) = 0) = False := eq_false (by omega)
      have ci1 : IntKind.i64.wrap ((i : Int) - 1) = ((i - 1 : Nat) : Int) := (wr_eq (by omega) (by omega)).trans (by omega)
      have ci2 : (0 ≤ ((i - 1 : Nat) : Int)) = True := eq_true (by omega)
      have ci3 : (((i - 1 : Nat) : Int) < (l.length : Int)) = True := eq_true (by omega)
      have hidN : (id = N) = False := eq_false (by omega)
      rw [hop] at hend h33 h30 qc
      by_cases hpk : pk = 5
      · rw [show (!decide (pk = 5)) = false by simp [hpk]] at hend h33 h30 qc
        rw [hpk] at hpc
        by_cases hk : k = 1
        · have hK : badK false ⟨k, a, b, c⟩ = false := by simp [badK, hk]
          try simp only [r11_0, r11_1, r11_2, r11_3, r11_4, r11_6, r11_7, r11_8, r11_9, r11_10, r11_12, r11_13, r11_11, r11_14, r11_15, r11_17, r11_18, r11_16, r11_5, r11_19, c11, F11, l11_2, q3, q0', hlen, c2, c3, hrd, hk, Int.toNat_natCast, go_sem, Int.reduceTMod, Int.reduceTDiv, Int.reduceDiv, Int.reduceMod, Int.reduceAdd, Int.reduceSub, Int.reduceMul, Int.reduceNeg, Int.reducePow, Int.reduceEq, ↓reduceIte, Nat.reduceEqDiff, Nat.reduceAdd, Nat.reduceMul, Nat.reduceLeDiff, Nat.reduceSub, Nat.reduceLT, Int.reduceToNat, Int.reduceLT, Int.reduceLE, reduceCtorEq]
          repeat' ((first | refine FK_split (fun h_ => ?_) (fun h_ => ?_) | refine GK_split (fun h_ => ?_) (fun h_ => ?_) | refine ite_both (fun h_ => ?_) (fun h_ => ?_)) <;> (try simp only [decide_eq_true_eq, decide_eq_false_iff_not, Bool.not_true, Bool.not_false, Bool.not_eq_true', Bool.not_eq_false', Bool.not_eq_eq_eq_not, Decidable.not_not] at h_) <;> (try simp only [r11_0, r11_1, r11_2, r11_3, r11_4, r11_6, r11_7, r11_8, r11_9, r11_10, r11_12, r11_13, r11_11, r11_14, r11_15, r11_17, r11_18, r11_16, r11_5, r11_19, c11, F11, l11_2, q3, q0', hlen, c2, c3, hrd, hk, Int.toNat_natCast, h_, go_sem, Int.reduceTMod, Int.reduceTDiv, Int.reduceDiv, Int.reduceMod, Int.reduceAdd, Int.reduceSub, Int.reduceMul, Int.reduceNeg, Int.reducePow, Int.reduceEq, ↓reduceIte, Nat.reduceEqDiff, Nat.reduceAdd, Nat.reduceMul, Nat.reduceLeDiff, Nat.reduceSub, Nat.reduceLT, Int.reduceToNat, Int.reduceLT, Int.reduceLE, reduceCtorEq]))
          try simp only [r11_0, r11_1, r11_2, r11_3, r11_4, r11_6, r11_7, r11_8, r11_9, r11_10, r11_12, r11_13, r11_11, r11_14, r11_15, r11_17, r11_18, r11_16, r11_5, r11_19, c11, F11, l11_0, l11_1, XK_loop, v_rNeed, v_rIn, hk, need1, c7, q3, go_sem, Int.reduceTMod, Int.reduceTDiv, Int.reduceDiv, Int.reduceMod, Int.reduceAdd, Int.reduceSub, Int.reduceMul, Int.reduceNeg, Int.reducePow, Int.reduceEq, ↓reduceIte, Nat.reduceEqDiff, Nat.reduceAdd, Nat.reduceMul, Nat.reduceLeDiff, Nat.reduceSub, Nat.reduceLT, Int.reduceToNat, Int.reduceLT, Int.reduceLE, reduceCtorEq]
          repeat' ((first | refine FK_split (fun h_ => ?_) (fun h_ => ?_) | refine GK_split (fun h_ => ?_) (fun h_ => ?_) | refine ite_both (fun h_ => ?_) (fun h_ => ?_)) <;> (try simp only [decide_eq_true_eq, decide_eq_false_iff_not, Bool.not_true, Bool.not_false, Bool.not_eq_true', Bool.not_eq_false', Bool.not_eq_eq_eq_not, Decidable.not_not] at h_) <;> (try simp only [r11_0, r11_1, r11_2, r11_3, r11_4, r11_6, r11_7, r11_8, r11_9, r11_10, r11_12, r11_13, r11_11, r11_14, r11_15, r11_17, r11_18, r11_16, r11_5, r11_19, c11, F11, l11_0, l11_1, XK_loop, v_rNeed, v_rIn, hk, need1, c7, q3, h_, go_sem, Int.reduceTMod, Int.reduceTDiv, Int.reduceDiv, Int.reduceMod, Int.reduceAdd, Int.reduceSub, Int.reduceMul, Int.reduceNeg, Int.reducePow, Int.reduceEq, ↓reduceIte, Nat.reduceEqDiff, Nat.reduceAdd, Nat.reduceMul, Nat.reduceLeDiff, Nat.reduceSub, Nat.reduceLT, Int.reduceToNat, Int.reduceLT, Int.reduceLE, reduceCtorEq]))
          all_goals first
            | (rw [h33 hK (by simp [badU, Sg.pts, hk, need1, need2, need3, need4, need5, zP, *])]; done)
            | (rw [h30 hK (by simp [badU, Sg.pts, hk, need1, need2, need3, need4, need5, zP, *]) (by simp [badR, Sg.pts, hk, need1, need2, need3, need4, need5, inP, *])]; done)
            | (rw [← XK_loop]; refine hend _ ?_ ?_ ?_ ?_ hK (by simp [badU, Sg.pts, hk, need1, need2, need3, need4, need5, zP, *]) (by simp [badR, Sg.pts, hk, need1, need2, need3, need4, need5, inP, *])
               · simp only [go_sem, Int.reduceTMod, Int.reduceTDiv, Int.reduceDiv, Int.reduceMod, Int.reduceAdd, Int.reduceSub, Int.reduceMul, Int.reduceNeg, Int.reducePow, Int.reduceEq, ↓reduceIte, Nat.reduceEqDiff, Nat.reduceAdd, Nat.reduceMul, Nat.reduceLeDiff, Nat.reduceSub, Nat.reduceLT, Int.reduceToNat, Int.reduceLT, Int.reduceLE, reduceCtorEq]
               · simp only [q0, go_sem, Int.reduceTMod, Int.reduceTDiv, Int.reduceDiv, Int.reduceMod, Int.reduceAdd, Int.reduceSub, Int.reduceMul, Int.reduceNeg, Int.reducePow, Int.reduceEq, ↓reduceIte, Nat.reduceEqDiff, Nat.reduceAdd, Nat.reduceMul, Nat.reduceLeDiff, Nat.reduceSub, Nat.reduceLT, Int.reduceToNat, Int.reduceLT, Int.reduceLE, reduceCtorEq]
               · simp only; omega
               · intro id hid
                 simp only [lo id hid, if_false, go_sem, Int.reduceTMod, Int.reduceTDiv, Int.reduceDiv, Int.reduceMod, Int.reduceAdd, Int.reduceSub, Int.reduceMul, Int.reduceNeg, Int.reducePow, Int.reduceEq, ↓reduceIte, Nat.reduceEqDiff, Nat.reduceAdd, Nat.reduceMul, Nat.reduceLeDiff, Nat.reduceSub, Nat.reduceLT, Int.reduceToNat, Int.reduceLT, Int.reduceLE, reduceCtorEq]
                 exact qm id hid)
        · have e33 : chkP l = 33 := by
            rw [hP, qc]
            simp [chkS, badK, hk]
          try simp only [r11_0, r11_1, r11_2, r11_3, r11_4, r11_6, r11_7, r11_8, r11_9, r11_10, r11_12, r11_13, r11_11, r11_14, r11_15, r11_17, r11_18, r11_16, r11_5, r11_19, c11, F11, l11_2, q3, q0', hlen, c2, c3, ci, ci1, ci2, ci3, hidN, hpb, hpc, hrd, hk1, hk2, hk, e33, Int.toNat_natCast, go_sem, Int.reduceTMod, Int.reduceTDiv, Int.reduceDiv, Int.reduceMod, Int.reduceAdd, Int.reduceSub, Int.reduceMul, Int.reduceNeg, Int.reducePow, Int.reduceEq, ↓reduceIte, Nat.reduceEqDiff, Nat.reduceAdd, Nat.reduceMul, Nat.reduceLeDiff, Nat.reduceSub, Nat.reduceLT, Int.reduceToNat, Int.reduceLT, Int.reduceLE, reduceCtorEq]
          repeat' ((first | refine FK_split (fun h_ => ?_) (fun h_ => ?_) | refine GK_split (fun h_ => ?_) (fun h_ => ?_) | refine ite_both (fun h_ => ?_) (fun h_ => ?_)) <;> (try simp only [decide_eq_true_eq, decide_eq_false_iff_not, Bool.not_true, Bool.not_false, Bool.not_eq_true', Bool.not_eq_false', Bool.not_eq_eq_eq_not, Decidable.not_not] at h_) <;> (try simp only [r11_0, r11_1, r11_2, r11_3, r11_4, r11_6, r11_7, r11_8, r11_9, r11_10, r11_12, r11_13, r11_11, r11_14, r11_15, r11_17, r11_18, r11_16, r11_5, r11_19, c11, F11, l11_2, q3, q0', hlen, c2, c3, ci, ci1, ci2, ci3, hidN, hpb, hpc, hrd, hk1, hk2, hk, e33, Int.toNat_natCast, h_, go_sem, Int.reduceTMod, Int.reduceTDiv, Int.reduceDiv, Int.reduceMod, Int.reduceAdd, Int.reduceSub, Int.reduceMul, Int.reduceNeg, Int.reducePow, Int.reduceEq, ↓reduceIte, Nat.reduceEqDiff, Nat.reduceAdd, Nat.reduceMul, Nat.reduceLeDiff, Nat.reduceSub, Nat.reduceLT, Int.reduceToNat, Int.reduceLT, Int.reduceLE, reduceCtorEq]))
      · rw [show (!decide (pk = 5)) = true by simp [hpk]] at hend h33 h30 qc
        have hK : badK true ⟨k, a, b, c⟩ = false := by simp [badK, hk1, hk2]
        rcases kinds hk1 hk2 with hk | hk | hk | hk | hk
        all_goals
          try simp only [r11_0, r11_1, r11_2, r11_3, r11_4, r11_6, r11_7, r11_8, r11_9, r11_10, r11_12, r11_13, r11_11, r11_14, r11_15, r11_17, r11_18, r11_16, r11_5, r11_19, c11, F11, l11_2, q3, q0', hlen, c2, c3, ci, ci1, ci2, ci3, hidN, hpb, hpc, hpk, hrd, hk, Int.toNat_natCast, go_sem, Int.reduceTMod, Int.reduceTDiv, Int.reduceDiv, Int.reduceMod, Int.reduceAdd, Int.reduceSub, Int.reduceMul, Int.reduceNeg, Int.reducePow, Int.reduceEq, ↓reduceIte, Nat.reduceEqDiff, Nat.reduceAdd, Nat.reduceMul, Nat.reduceLeDiff, Nat.reduceSub, Nat.reduceLT, Int.reduceToNat, Int.reduceLT, Int.reduceLE, reduceCtorEq]
          repeat' ((first | refine FK_split (fun h_ => ?_) (fun h_ => ?_) | refine GK_split (fun h_ => ?_) (fun h_ => ?_) | refine ite_both (fun h_ => ?_) (fun h_ => ?_)) <;> (try simp only [decide_eq_true_eq, decide_eq_false_iff_not, Bool.not_true, Bool.not_false, Bool.not_eq_true', Bool.not_eq_false', Bool.not_eq_eq_eq_not, Decidable.not_not] at h_) <;> (try simp only [r11_0, r11_1, r11_2, r11_3, r11_4, r11_6, r11_7, r11_8, r11_9, r11_10, r11_12, r11_13, r11_11, r11_14, r11_15, r11_17, r11_18, r11_16, r11_5, r11_19, c11, F11, l11_2, q3, q0', hlen, c2, c3, ci, ci1, ci2, ci3, hidN, hpb, hpc, hpk, hrd, hk, Int.toNat_natCast, h_, go_sem, Int.reduceTMod, Int.reduceTDiv, Int.reduceDiv, Int.reduceMod, Int.reduceAdd, Int.reduceSub, Int.reduceMul, Int.reduceNeg, Int.reducePow, Int.reduceEq, ↓reduceIte, Nat.reduceEqDiff, Nat.reduceAdd, Nat.reduceMul, Nat.reduceLeDiff, Nat.reduceSub, Nat.reduceLT, Int.reduceToNat, Int.reduceLT, Int.reduceLE, reduceCtorEq]))
          try simp only [r11_0, r11_1, r11_2, r11_3, r11_4, r11_6, r11_7, r11_8, r11_9, r11_10, r11_12, r11_13, r11_11, r11_14, r11_15, r11_17, r11_18, r11_16, r11_5, r11_19, c11, F11, l11_0, l11_1, XK_loop, v_rNeed, v_rIn, hk, need1, need2, need3, need4, need5, c7, q3, go_sem, Int.reduceTMod, Int.reduceTDiv, Int.reduceDiv, Int.reduceMod, Int.reduceAdd, Int.reduceSub, Int.reduceMul, Int.reduceNeg, Int.reducePow, Int.reduceEq, ↓reduceIte, Nat.reduceEqDiff, Nat.reduceAdd, Nat.reduceMul, Nat.reduceLeDiff, Nat.reduceSub, Nat.reduceLT, Int.reduceToNat, Int.reduceLT, Int.reduceLE, reduceCtorEq]
          repeat' ((first | refine FK_split (fun h_ => ?_) (fun h_ => ?_) | refine GK_split (fun h_ => ?_) (fun h_ => ?_) | refine ite_both (fun h_ => ?_) (fun h_ => ?_)) <;> (try simp only [decide_eq_true_eq, decide_eq_false_iff_not, Bool.not_true, Bool.not_false, Bool.not_eq_true', Bool.not_eq_false', Bool.not_eq_eq_eq_not, Decidable.not_not] at h_) <;> (try simp only [r11_0, r11_1, r11_2, r11_3, r11_4, r11_6, r11_7, r11_8, r11_9, r11_10, r11_12, r11_13, r11_11, r11_14, r11_15, r11_17, r11_18, r11_16, r11_5, r11_19, c11, F11, l11_0, l11_1, XK_loop, v_rNeed, v_rIn, hk, need1, need2, need3, need4, need5, c7, q3, h_, go_sem, Int.reduceTMod, Int.reduceTDiv, Int.reduceDiv, Int.reduceMod, Int.reduceAdd, Int.reduceSub, Int.reduceMul, Int.reduceNeg, Int.reducePow, Int.reduceEq, ↓reduceIte, Nat.reduceEqDiff, Nat.reduceAdd, Nat.reduceMul, Nat.reduceLeDiff, Nat.reduceSub, Nat.reduceLT, Int.reduceToNat, Int.reduceLT, Int.reduceLE, reduceCtorEq]))
        all_goals first
          | (rw [h33 hK (by simp [badU, Sg.pts, hk, need1, need2, need3, need4, need5, zP, *])]; done)
          | (rw [h30 hK (by simp [badU, Sg.pts, hk, need1, need2, need3, need4, need5, zP, *]) (by simp [badR, Sg.pts, hk, need1, need2, need3, need4, need5, inP, *])]; done)
          | (rw [← XK_loop]; refine hend _ ?_ ?_ ?_ ?_ hK (by simp [badU, Sg.pts, hk, need1, need2, need3, need4, need5, zP, *]) (by simp [badR, Sg.pts, hk, need1, need2, need3, need4, need5, inP, *])
             · simp only [go_sem, Int.reduceTMod, Int.reduceTDiv, Int.reduceDiv, Int.reduceMod, Int.reduceAdd, Int.reduceSub, Int.reduceMul, Int.reduceNeg, Int.reducePow, Int.reduceEq, ↓reduceIte, Nat.reduceEqDiff, Nat.reduceAdd, Nat.reduceMul, Nat.reduceLeDiff, Nat.reduceSub, Nat.reduceLT, Int.reduceToNat, Int.reduceLT, Int.reduceLE, reduceCtorEq]
             · simp only [q0, go_sem, Int.reduceTMod, Int.reduceTDiv, Int.reduceDiv, Int.reduceMod, Int.reduceAdd, Int.reduceSub, Int.reduceMul, Int.reduceNeg, Int.reducePow, Int.reduceEq, ↓reduceIte, Nat.reduceEqDiff, Nat.reduceAdd, Nat.reduceMul, Nat.reduceLeDiff, Nat.reduceSub, Nat.reduceLT, Int.reduceToNat, Int.reduceLT, Int.reduceLE, reduceCtorEq]
             · simp only; omega
             · intro id hid
               simp only [lo id hid, if_false, go_sem, Int.reduceTMod, Int.reduceTDiv, Int.reduceDiv, Int.reduceMod, Int.reduceAdd, Int.reduceSub, Int.reduceMul, Int.reduceNeg, Int.reducePow, Int.reduceEq, ↓reduceIte, Nat.reduceEqDiff, Nat.reduceAdd, Nat.reduceMul, Nat.reduceLeDiff, Nat.reduceSub, Nat.reduceLT, Int.reduceToNat, Int.reduceLT, Int.reduceLE, reduceCtorEq]
               exact qm id hid)
  · obtain ⟨e, M, N⟩ := s
    obtain ⟨q3, q0, qn, qm, qc⟩ := hs
    simp only at q3 q0 qn qm
    have c2 : ((l.length : Int) < (l.length : Int)) = False := eq_false (by omega)
    rw [List.drop_length] at qc
    have e0 : chkP l = 0 := by rw [hP, qc]; rfl
    try simp only [r11_0, r11_1, r11_2, r11_3, r11_4, r11_6, r11_7, r11_8, r11_9, r11_10, r11_12, r11_13, r11_11, r11_14, r11_15, r11_17, r11_18, r11_16, r11_5, r11_19, c11, F11, l11_2, q3, q0, hlen, c2, e0, go_sem, Int.reduceTMod, Int.reduceTDiv, Int.reduceDiv, Int.reduceMod, Int.reduceAdd, Int.reduceSub, Int.reduceMul, Int.reduceNeg, Int.reducePow, Int.reduceEq, ↓reduceIte, Nat.reduceEqDiff, Nat.reduceAdd, Nat.reduceMul, Nat.reduceLeDiff, Nat.reduceSub, Nat.reduceLT, Int.reduceToNat, Int.reduceLT, Int.reduceLE, reduceCtorEq]
    repeat' ((first | refine FK_split (fun h_ => ?_) (fun h_ => ?_) | refine GK_split (fun h_ => ?_) (fun h_ => ?_) | refine ite_both (fun h_ => ?_) (fun h_ => ?_)) <;> (try simp only [decide_eq_true_eq, decide_eq_false_iff_not, Bool.not_true, Bool.not_false, Bool.not_eq_true', Bool.not_eq_false', Bool.not_eq_eq_eq_not, Decidable.not_not] at h_) <;> (try simp only [r11_0, r11_1, r11_2, r11_3, r11_4, r11_6, r11_7, r11_8, r11_9, r11_10, r11_12, r11_13, r11_11, r11_14, r11_15, r11_17, r11_18, r11_16, r11_5, r11_19, c11, F11, l11_2, q3, q0, hlen, c2, e0, h_, go_sem, Int.reduceTMod, Int.reduceTDiv, Int.reduceDiv, Int.reduceMod, Int.reduceAdd, Int.reduceSub, Int.reduceMul, Int.reduceNeg, Int.reducePow, Int.reduceEq, ↓reduceIte, Nat.reduceEqDiff, Nat.reduceAdd, Nat.reduceMul, Nat.reduceLeDiff, Nat.reduceSub, Nat.reduceLT, Int.reduceToNat, Int.reduceLT, Int.reduceLE, reduceCtorEq]))
  · simp only [go_sem, Int.reduceTMod, Int.reduceTDiv, Int.reduceDiv, Int.reduceMod, Int.reduceAdd, Int.reduceSub, Int.reduceMul, Int.reduceNeg, Int.reducePow, Int.reduceEq, ↓reduceIte, Nat.reduceEqDiff, Nat.reduceAdd, Nat.reduceMul, Nat.reduceLeDiff, Nat.reduceSub, Nat.reduceLT, Int.reduceToNat, Int.reduceLT, Int.reduceLE, reduceCtorEq]
  · simp only [go_sem, Int.reduceTMod, Int.reduceTDiv, Int.reduceDiv, Int.reduceMod, Int.reduceAdd, Int.reduceSub, Int.reduceMul, Int.reduceNeg, Int.reducePow, Int.reduceEq, ↓reduceIte, Nat.reduceEqDiff, Nat.reduceAdd, Nat.reduceMul, Nat.reduceLeDiff, Nat.reduceSub, Nat.reduceLT, Int.reduceToNat, Int.reduceLT, Int.reduceLE, reduceCtorEq]
end Go.Proofs.YtpleidpbapgmiaaDoor.Sy
