import Derived.Test.YtoakdmjpbachdaaMgG
/- The law DashTurns walked. Conditions: those that each theorem names. -/
namespace Go.Proofs.Ytoakdmjpbachdaa.Sy
open Go Go.Proofs
set_option linter.unusedSimpArgs false
set_option linter.unusedVariables false
set_option maxRecDepth 20000
attribute [local go_sem] XK_seq XK_block XK_skip XK_exit XK_ret XK_cond XK_reg XK_dreg XK_ureg KN_seq KN_blk KN_lp KN_chk KN_chku KN_top KN_fin KX_seq KX_lp KX_blk KX_chk KX_top KR_seq KR_blk KR_lp KR_chk KR_top KR_fin FK_true FK_false RK_nil RK_mv RK_pick RK_alloc RK_box RK_build RK_bslice RK_load1 RK_loadA RK_store RK_nilchk RK_bin RK_beq RK_eqv RK_eqnil RK_un RK_conv RK_mkfn RK_mkslice RK_slS RK_slA RK_fadr RK_fld RK_iadrA RK_iadrS RK_idxA RK_ext RK_lenC RK_cap RK_app RK_cpy RK_mn RK_mx RK_len RK_carry RK_clr carryR um0 um1 ThenK_some RK_guard GK_tt GK_ff GK_tf GK_ft GK_none QK_some RK_callQ RK_callZ VK_clo RK_callV
  evalOp evO evOs upd_at unfrz_at putE_some putE_none boolOf_b boolOf_tup Option.map_some evRes pack_one pack_two pack_three pack_none List.getD_cons_zero List.getD_cons_succ getD_nil
  Option.some.injEq exists_eq_left' Reg.cs? fillC setL List.set_cons_zero List.set_cons_succ List.length_cons List.length_nil rd_upd rd_updn rdB wr List.drop_zero List.drop_succ_cons List.take_succ_cons List.take_zero List.getElem?_cons_zero List.getElem?_cons_succ
  ix Int.toNat_zero lenO_sl lenO_nil nadd na_eq na_eq' na_lt na_ee na_ll na_ne na_ne' na_tt
attribute [local go_sem] Reg.flat_one Reg.flat_agg Reg.flat_tup flats_nil flats_cons Cell.flat_sc Cell.flat_ptr List.all_cons List.all_nil disOk safeOk safeR decide_eq_true_eq decide_eq_false_iff_not
  List.map_cons List.map_nil List.cons_append List.nil_append List.append_nil evalOp.capsOf Bool.false_bne Bool.bne_false Bool.true_bne Bool.bne_true bne_self_eq_false beq_self_eq_true Bool.not_not Bool.false_and Bool.and_false Bool.true_or Bool.or_true beq_iff_eq eqCells
  Bool.true_beq Bool.false_beq Bool.not_eq_true' Bool.not_eq_eq_eq_not Bool.not_eq_false' and_false false_and frz_at idOf noId Option.isSome_some Bool.and_eq_true
attribute [local go_sem] wr_eq bV_add bV_sub bV_mul bV_eql bV_neq bV_lss bV_leq bV_gtr bV_geq bV_quo bV_rem bV_shr bV_shl uV_not uV_neg wrapU bits_and bits_or bits_xor IntKind.bits Nat.min_eq_left Nat.min_eq_right Nat.min_self
attribute [local go_sem] bne_iff_ne Int.cast_ofNat_Int Nat.zero_add Nat.add_zero and_self and_true true_and ne_eq not_false_eq_true not_true_eq_false decide_true decide_false Bool.false_eq_true Bool.not_true Bool.not_false Bool.true_and Bool.and_true Bool.or_false Bool.false_or Bool.and_self

theorem OG.lt {α : Type} {enc : α → List Cell} {sz base : Nat} {m : Mem} {n : Nat} {c : Cell} {l : List α} (h : OG enc sz base m n c l) {i : Nat} (hi : sid (.one c) = some i) : base ≤ i ∧ i < n := by
  obtain ⟨id, cap, rfl, h1, h2, _⟩ := h
  simp only [sid, Option.some.injEq] at hi
  omega
theorem pat_split {pat : List Int} (hP : PatI pat) (h4 : ¬ 4 < (pat.length : Int)) : ∃ a b t, pat = a :: b :: t ∧ (t = [] ∨ ∃ c d, t = [c, d]) := by
  have hev := hP.ev
  have hpo := hP.po
  match pat, hev, hpo, h4 with
  | [], _, h, _ => simp at h
  | [_], h, _, _ => simp at h
  | [a, b], _, _, _ => exact ⟨a, b, [], rfl, Or.inl rfl⟩
  | [_, _, _], h, _, _ => simp at h
  | [a, b, c, d], _, _, _ => exact ⟨a, b, [c, d], rfl, Or.inr ⟨c, d, rfl⟩⟩
  | _ :: _ :: _ :: _ :: _ :: _, _, _, h => simp at h; omega
set_option maxHeartbeats 8000000 in
theorem law6 (c0 pc : Cell) (l : List Pt) (c : Bool) (pat : List Int) (ph : Int) (m : Mem) (n : Nat) (hr : RPt m n (.one c0) l) (hpr : RIn m n (.one pc) pat) (hcp : ∀ id off k cap sz, pc = .sl id off k cap sz → cap = none) : Fn TA 6 [.agg [c0, .sc (.bool c)], .agg [pc, I ph]] m n (fun r _ _ => r = RB true) := by
  refine Fn_ofK (fn := F6) rfl (by simp [F6]) ?_
  have hlen := hr.len
  have hplen := hpr.len
  by_cases g : 20 < (l.length : Int)
  · skip
    try simp only [r6_0, r6_1, r6_2, r6_3, r6_4, r6_5, r6_6, r6_7, r6_8, r6_9, r6_10, c6, F6, hlen, g, v_awake, go_sem, Int.reduceTMod, Int.reduceTDiv, Int.reduceDiv, Int.reduceMod, Int.reduceAdd, Int.reduceSub, Int.reduceMul, Int.reduceNeg, Int.reducePow, Int.reduceEq, ↓reduceIte, Nat.reduceEqDiff, Nat.reduceAdd, Nat.reduceMul, Nat.reduceLeDiff, Nat.reduceSub, Nat.reduceLT, Int.reduceToNat, Int.reduceLT, Int.reduceLE, reduceCtorEq]
    repeat' ((first | refine FK_split (fun h_ => ?_) (fun h_ => ?_) | refine GK_split (fun h_ => ?_) (fun h_ => ?_) | refine ite_both (fun h_ => ?_) (fun h_ => ?_)) <;> (try simp only [decide_eq_true_eq, decide_eq_false_iff_not, Bool.not_true, Bool.not_false, Bool.not_eq_true', Bool.not_eq_false', Bool.not_eq_eq_eq_not, Decidable.not_not] at h_) <;> (try simp only [r6_0, r6_1, r6_2, r6_3, r6_4, r6_5, r6_6, r6_7, r6_8, r6_9, r6_10, c6, F6, hlen, g, v_awake, h_, go_sem, Int.reduceTMod, Int.reduceTDiv, Int.reduceDiv, Int.reduceMod, Int.reduceAdd, Int.reduceSub, Int.reduceMul, Int.reduceNeg, Int.reducePow, Int.reduceEq, ↓reduceIte, Nat.reduceEqDiff, Nat.reduceAdd, Nat.reduceMul, Nat.reduceLeDiff, Nat.reduceSub, Nat.reduceLT, Int.reduceToNat, Int.reduceLT, Int.reduceLE, reduceCtorEq]))
  have hp00 : RIn (upd (upd m n (some ⟨[c0, .sc (.bool c)], true⟩)) (n + 1) (some ⟨[pc, I ph], true⟩)) (n + 2) (.one pc) pat := hpr.keep (by omega) (fun id hid => by rw [upd_ne _ _ (by omega), upd_ne _ _ (by omega)])
  have v0 := v_RightA _ pat ph _ _ hp00.frz
  cases hri : rightB pat ph
  · rw [hri] at v0
    try simp only [r6_0, r6_1, r6_2, r6_3, r6_4, r6_5, r6_6, r6_7, r6_8, r6_9, r6_10, c6, F6, hlen, g, v0, v_awake, go_sem, Int.reduceTMod, Int.reduceTDiv, Int.reduceDiv, Int.reduceMod, Int.reduceAdd, Int.reduceSub, Int.reduceMul, Int.reduceNeg, Int.reducePow, Int.reduceEq, ↓reduceIte, Nat.reduceEqDiff, Nat.reduceAdd, Nat.reduceMul, Nat.reduceLeDiff, Nat.reduceSub, Nat.reduceLT, Int.reduceToNat, Int.reduceLT, Int.reduceLE, reduceCtorEq]
    repeat' ((first | refine FK_split (fun h_ => ?_) (fun h_ => ?_) | refine GK_split (fun h_ => ?_) (fun h_ => ?_) | refine ite_both (fun h_ => ?_) (fun h_ => ?_)) <;> (try simp only [decide_eq_true_eq, decide_eq_false_iff_not, Bool.not_true, Bool.not_false, Bool.not_eq_true', Bool.not_eq_false', Bool.not_eq_eq_eq_not, Decidable.not_not] at h_) <;> (try simp only [r6_0, r6_1, r6_2, r6_3, r6_4, r6_5, r6_6, r6_7, r6_8, r6_9, r6_10, c6, F6, hlen, g, v0, v_awake, h_, go_sem, Int.reduceTMod, Int.reduceTDiv, Int.reduceDiv, Int.reduceMod, Int.reduceAdd, Int.reduceSub, Int.reduceMul, Int.reduceNeg, Int.reducePow, Int.reduceEq, ↓reduceIte, Nat.reduceEqDiff, Nat.reduceAdd, Nat.reduceMul, Nat.reduceLeDiff, Nat.reduceSub, Nat.reduceLT, Int.reduceToNat, Int.reduceLT, Int.reduceLE, reduceCtorEq]))
  rw [hri] at v0
  by_cases hne : pat = []
  · subst hne
    simp only [List.length_nil] at hplen
    try simp only [r6_0, r6_1, r6_2, r6_3, r6_4, r6_5, r6_6, r6_7, r6_8, r6_9, r6_10, c6, F6, hlen, hplen, g, v0, v_awake, go_sem, Int.reduceTMod, Int.reduceTDiv, Int.reduceDiv, Int.reduceMod, Int.reduceAdd, Int.reduceSub, Int.reduceMul, Int.reduceNeg, Int.reducePow, Int.reduceEq, ↓reduceIte, Nat.reduceEqDiff, Nat.reduceAdd, Nat.reduceMul, Nat.reduceLeDiff, Nat.reduceSub, Nat.reduceLT, Int.reduceToNat, Int.reduceLT, Int.reduceLE, reduceCtorEq]
    repeat' ((first | refine FK_split (fun h_ => ?_) (fun h_ => ?_) | refine GK_split (fun h_ => ?_) (fun h_ => ?_) | refine ite_both (fun h_ => ?_) (fun h_ => ?_)) <;> (try simp only [decide_eq_true_eq, decide_eq_false_iff_not, Bool.not_true, Bool.not_false, Bool.not_eq_true', Bool.not_eq_false', Bool.not_eq_eq_eq_not, Decidable.not_not] at h_) <;> (try simp only [r6_0, r6_1, r6_2, r6_3, r6_4, r6_5, r6_6, r6_7, r6_8, r6_9, r6_10, c6, F6, hlen, hplen, g, v0, v_awake, h_, go_sem, Int.reduceTMod, Int.reduceTDiv, Int.reduceDiv, Int.reduceMod, Int.reduceAdd, Int.reduceSub, Int.reduceMul, Int.reduceNeg, Int.reducePow, Int.reduceEq, ↓reduceIte, Nat.reduceEqDiff, Nat.reduceAdd, Nat.reduceMul, Nat.reduceLeDiff, Nat.reduceSub, Nat.reduceLT, Int.reduceToNat, Int.reduceLT, Int.reduceLE, reduceCtorEq]))
  have hpl : ((pat.length : Int) = 0) = False := eq_false (fun e => hne (List.length_eq_zero_iff.1 (by omega)))
  by_cases g4 : 4 < (pat.length : Int)
  · skip
    try simp only [r6_0, r6_1, r6_2, r6_3, r6_4, r6_5, r6_6, r6_7, r6_8, r6_9, r6_10, c6, F6, hlen, hplen, hpl, g, g4, v0, v_awake, go_sem, Int.reduceTMod, Int.reduceTDiv, Int.reduceDiv, Int.reduceMod, Int.reduceAdd, Int.reduceSub, Int.reduceMul, Int.reduceNeg, Int.reducePow, Int.reduceEq, ↓reduceIte, Nat.reduceEqDiff, Nat.reduceAdd, Nat.reduceMul, Nat.reduceLeDiff, Nat.reduceSub, Nat.reduceLT, Int.reduceToNat, Int.reduceLT, Int.reduceLE, reduceCtorEq]
    repeat' ((first | refine FK_split (fun h_ => ?_) (fun h_ => ?_) | refine GK_split (fun h_ => ?_) (fun h_ => ?_) | refine ite_both (fun h_ => ?_) (fun h_ => ?_)) <;> (try simp only [decide_eq_true_eq, decide_eq_false_iff_not, Bool.not_true, Bool.not_false, Bool.not_eq_true', Bool.not_eq_false', Bool.not_eq_eq_eq_not, Decidable.not_not] at h_) <;> (try simp only [r6_0, r6_1, r6_2, r6_3, r6_4, r6_5, r6_6, r6_7, r6_8, r6_9, r6_10, c6, F6, hlen, hplen, hpl, g, g4, v0, v_awake, h_, go_sem, Int.reduceTMod, Int.reduceTDiv, Int.reduceDiv, Int.reduceMod, Int.reduceAdd, Int.reduceSub, Int.reduceMul, Int.reduceNeg, Int.reducePow, Int.reduceEq, ↓reduceIte, Nat.reduceEqDiff, Nat.reduceAdd, Nat.reduceMul, Nat.reduceLeDiff, Nat.reduceSub, Nat.reduceLT, Int.reduceToNat, Int.reduceLT, Int.reduceLE, reduceCtorEq]))
  have hP := (right_pat hri hne).1
  obtain ⟨a, b, t, ep, ht⟩ := pat_split hP g4
  obtain ⟨hri2, hout2⟩ := out_dbl (l := l) (c := c) hri hne (by omega)
  rw [ep] at hri
  obtain ⟨hri3, hout3⟩ := out_rot (l := l) (c := c) ht hri
  rw [← ep] at hri hri3 hout3
  obtain ⟨O, hO⟩ : ∃ O, O = dashOut l c pat ph := ⟨_, rfl⟩
  rw [← hO] at hout2 hout3
  obtain ⟨M0, hM0⟩ : ∃ M0, M0 = upd (upd m n (some ⟨[c0, .sc (.bool c)], true⟩)) (n + 1) (some ⟨[pc, I ph], true⟩) := ⟨_, rfl⟩
  have hf0 : ∀ id, id < n → M0 id = m id := fun id hid => by rw [hM0, upd_ne _ _ (by omega), upd_ne _ _ (by omega)]
  have hb0 : M0 n = some ⟨[c0, .sc (.bool c)], true⟩ := by rw [hM0, upd_ne _ _ (by omega), upd_same]
  have hc0 : M0 (n + 1) = some ⟨[pc, I ph], true⟩ := by rw [hM0, upd_same]
  have hr0 : RPt M0 (n + 2) (.one c0) l := hr.keep (by omega) hf0
  have hp0 : RIn M0 (n + 2) (.one pc) pat := hpr.keep (by omega) hf0
  try simp only [r6_0, r6_1, r6_2, r6_3, r6_4, r6_5, r6_6, r6_7, r6_8, r6_9, r6_10, c6, F6, hlen, hplen, hpl, g, g4, v0, go_sem, Int.reduceTMod, Int.reduceTDiv, Int.reduceDiv, Int.reduceMod, Int.reduceAdd, Int.reduceSub, Int.reduceMul, Int.reduceNeg, Int.reducePow, Int.reduceEq, ↓reduceIte, Nat.reduceEqDiff, Nat.reduceAdd, Nat.reduceMul, Nat.reduceLeDiff, Nat.reduceSub, Nat.reduceLT, Int.reduceToNat, Int.reduceLT, Int.reduceLE, reduceCtorEq]
  repeat' ((first | refine FK_split (fun h_ => ?_) (fun h_ => ?_) | refine GK_split (fun h_ => ?_) (fun h_ => ?_) | refine ite_both (fun h_ => ?_) (fun h_ => ?_)) <;> (try simp only [decide_eq_true_eq, decide_eq_false_iff_not, Bool.not_true, Bool.not_false, Bool.not_eq_true', Bool.not_eq_false', Bool.not_eq_eq_eq_not, Decidable.not_not] at h_) <;> (try simp only [r6_0, r6_1, r6_2, r6_3, r6_4, r6_5, r6_6, r6_7, r6_8, r6_9, r6_10, c6, F6, hlen, hplen, hpl, g, g4, v0, h_, go_sem, Int.reduceTMod, Int.reduceTDiv, Int.reduceDiv, Int.reduceMod, Int.reduceAdd, Int.reduceSub, Int.reduceMul, Int.reduceNeg, Int.reducePow, Int.reduceEq, ↓reduceIte, Nat.reduceEqDiff, Nat.reduceAdd, Nat.reduceMul, Nat.reduceLeDiff, Nat.reduceSub, Nat.reduceLT, Int.reduceToNat, Int.reduceLT, Int.reduceLE, reduceCtorEq]))
  rw [← hM0]
  clear hM0 v0 hp00
  refine RK_callk ?_
  refine (w_Dash (c := c) (ph := ph) hr0.frz hp0.frz (by omega) (by omega)).mono ?_
  rintro r1 m1 n1 ⟨x1, k1, rfl, hQ1⟩
  obtain ⟨rfl, hrow1, hls1, hls2⟩ := dash_out hQ1 (by omega) hri hne
  clear hQ1
  rw [← hO] at hrow1 hls1 hls2 ⊢
  obtain ⟨M1, hM1⟩ : ∃ M1, M1 = unfrz M0 (n + 2) m1 := ⟨_, rfl⟩
  obtain ⟨N1, hN1⟩ : ∃ N1, N1 = max (n + 2) n1 := ⟨_, rfl⟩
  rw [← hM1, ← hN1]
  have hf1 : ∀ id, id < n + 2 → M1 id = M0 id := fun id hid => by rw [hM1, unfrz_at, if_pos hid]
  have hr1 : RPt M1 N1 (.one c0) l := hr0.keep (by omega) hf1
  have hp1 : RIn M1 N1 (.one pc) pat := hp0.keep (by omega) hf1
  have hb1 : M1 n = some ⟨[c0, .sc (.bool c)], true⟩ := by rw [hf1 n (by omega)]; exact hb0
  have hc1 : M1 (n + 1) = some ⟨[pc, I ph], true⟩ := by rw [hf1 _ (by omega)]; exact hc0
  have hx1 : RowF (n + 2) M1 N1 x1 O.2 := hrow1.keep (by omega) (fun id a b => by rw [hM1, unfrz_at, if_neg (by omega)])
  have hc1' : upd M1 N1 (some ⟨[], true⟩) (n + 1) = some ⟨[pc, I ph], true⟩ := by rw [upd_ne _ _ (by omega)]; exact hc1
  try simp only [r6_0, r6_1, r6_2, r6_3, r6_4, r6_5, r6_6, r6_7, r6_8, r6_9, r6_10, c6, F6, hb1, rd_of hb1, hc1', rd_of hc1', go_sem, Int.reduceTMod, Int.reduceTDiv, Int.reduceDiv, Int.reduceMod, Int.reduceAdd, Int.reduceSub, Int.reduceMul, Int.reduceNeg, Int.reducePow, Int.reduceEq, ↓reduceIte, Nat.reduceEqDiff, Nat.reduceAdd, Nat.reduceMul, Nat.reduceLeDiff, Nat.reduceSub, Nat.reduceLT, Int.reduceToNat, Int.reduceLT, Int.reduceLE, reduceCtorEq]
  repeat' ((first | refine FK_split (fun h_ => ?_) (fun h_ => ?_) | refine GK_split (fun h_ => ?_) (fun h_ => ?_) | refine ite_both (fun h_ => ?_) (fun h_ => ?_)) <;> (try simp only [decide_eq_true_eq, decide_eq_false_iff_not, Bool.not_true, Bool.not_false, Bool.not_eq_true', Bool.not_eq_false', Bool.not_eq_eq_eq_not, Decidable.not_not] at h_) <;> (try simp only [r6_0, r6_1, r6_2, r6_3, r6_4, r6_5, r6_6, r6_7, r6_8, r6_9, r6_10, c6, F6, hb1, rd_of hb1, hc1', rd_of hc1', h_, go_sem, Int.reduceTMod, Int.reduceTDiv, Int.reduceDiv, Int.reduceMod, Int.reduceAdd, Int.reduceSub, Int.reduceMul, Int.reduceNeg, Int.reducePow, Int.reduceEq, ↓reduceIte, Nat.reduceEqDiff, Nat.reduceAdd, Nat.reduceMul, Nat.reduceLeDiff, Nat.reduceSub, Nat.reduceLT, Int.reduceToNat, Int.reduceLT, Int.reduceLE, reduceCtorEq]))
  have hs4 : pat.length ≤ 4 := by omega
  refine K_cat ci1 OG.of_nil (Nat.le_refl _) (fun _ _ => rfl) (hp1.keep (m' := upd M1 N1 (some ⟨[], true⟩)) (n' := N1 + 1) (by omega) (fun id hid => upd_ne _ _ (by omega))) (by simp only [List.length_nil]; omega) (by omega) ?_
  intro c2 M2 N2 hN2 hO2 hf2
  have hf2' : ∀ id, id < N1 → M2 id = M1 id := fun id hid => by
    rw [hf2 id (by omega) (by simp only [sid, ne_eq, Option.some.injEq]; omega), upd_ne _ _ (by omega)]
  have hp2 : RIn M2 N2 (.one pc) pat := hp1.keep (by omega) hf2'
  have hb2 : M2 n = some ⟨[c0, .sc (.bool c)], true⟩ := by rw [hf2' n (by omega)]; exact hb1
  have hc2 : M2 (n + 1) = some ⟨[pc, I ph], true⟩ := by rw [hf2' _ (by omega)]; exact hc1
  rw [List.nil_append] at hO2
  obtain ⟨i2, p2, rfl, hi2⟩ : ∃ i2 p2, c2 = .sl i2 0 pat.length p2 1 ∧ N1 ≤ i2 := by
    obtain ⟨i, p, e, h1, _⟩ := hO2
    exact ⟨i, p, e, h1⟩
  have u1 : (n = N1) = False := eq_false (by omega)
  have u2 : (n + 1 = N1) = False := eq_false (by omega)
  have u3 : (n = i2) = False := eq_false (by omega)
  have u4 : (n + 1 = i2) = False := eq_false (by omega)
  try simp only [r6_0, r6_1, r6_2, r6_3, r6_4, r6_5, r6_6, r6_7, r6_8, r6_9, r6_10, c6, F6, hb2, rd_of hb2, hc2, rd_of hc2, u1, u2, u3, u4, bne_iff_ne, go_sem, Int.reduceTMod, Int.reduceTDiv, Int.reduceDiv, Int.reduceMod, Int.reduceAdd, Int.reduceSub, Int.reduceMul, Int.reduceNeg, Int.reducePow, Int.reduceEq, ↓reduceIte, Nat.reduceEqDiff, Nat.reduceAdd, Nat.reduceMul, Nat.reduceLeDiff, Nat.reduceSub, Nat.reduceLT, Int.reduceToNat, Int.reduceLT, Int.reduceLE, reduceCtorEq]
  repeat' ((first | refine FK_split (fun h_ => ?_) (fun h_ => ?_) | refine GK_split (fun h_ => ?_) (fun h_ => ?_) | refine ite_both (fun h_ => ?_) (fun h_ => ?_)) <;> (try simp only [decide_eq_true_eq, decide_eq_false_iff_not, Bool.not_true, Bool.not_false, Bool.not_eq_true', Bool.not_eq_false', Bool.not_eq_eq_eq_not, Decidable.not_not] at h_) <;> (try simp only [r6_0, r6_1, r6_2, r6_3, r6_4, r6_5, r6_6, r6_7, r6_8, r6_9, r6_10, c6, F6, hb2, rd_of hb2, hc2, rd_of hc2, u1, u2, u3, u4, bne_iff_ne, h_, go_sem, Int.reduceTMod, Int.reduceTDiv, Int.reduceDiv, Int.reduceMod, Int.reduceAdd, Int.reduceSub, Int.reduceMul, Int.reduceNeg, Int.reducePow, Int.reduceEq, ↓reduceIte, Nat.reduceEqDiff, Nat.reduceAdd, Nat.reduceMul, Nat.reduceLeDiff, Nat.reduceSub, Nat.reduceLT, Int.reduceToNat, Int.reduceLT, Int.reduceLE, reduceCtorEq]))
  refine K_cat ci1 hO2 (Nat.le_refl _) (fun _ _ => rfl) hp2 (by omega) (by omega) ?_
  intro c3 M3 N3 hN3 hO3 hf3
  have hf3' : ∀ id, id < N1 → M3 id = M1 id := fun id hid => by
    rw [hf3 id (by omega) (fun e => by have := hO2.lt e; omega), hf2' id hid]
  have hr3 : RPt M3 N3 (.one c0) l := hr1.keep (by omega) hf3'
  have hp3 : RIn M3 N3 (.one pc) pat := hp1.keep (by omega) hf3'
  have hb3 : M3 n = some ⟨[c0, .sc (.bool c)], true⟩ := by rw [hf3' n (by omega)]; exact hb1
  have hc3 : M3 (n + 1) = some ⟨[pc, I ph], true⟩ := by rw [hf3' _ (by omega)]; exact hc1
  have hx3 : RowF (n + 2) M3 N3 x1 O.2 := hx1.keep (by omega) (fun id _ b => hf3' id b)
  try simp only [r6_0, r6_1, r6_2, r6_3, r6_4, r6_5, r6_6, r6_7, r6_8, r6_9, r6_10, c6, F6, hb3, rd_of hb3, hc3, rd_of hc3, u1, u2, u3, u4, bne_iff_ne, go_sem, Int.reduceTMod, Int.reduceTDiv, Int.reduceDiv, Int.reduceMod, Int.reduceAdd, Int.reduceSub, Int.reduceMul, Int.reduceNeg, Int.reducePow, Int.reduceEq, ↓reduceIte, Nat.reduceEqDiff, Nat.reduceAdd, Nat.reduceMul, Nat.reduceLeDiff, Nat.reduceSub, Nat.reduceLT, Int.reduceToNat, Int.reduceLT, Int.reduceLE, reduceCtorEq]
  repeat' ((first | refine FK_split (fun h_ => ?_) (fun h_ => ?_) | refine GK_split (fun h_ => ?_) (fun h_ => ?_) | refine ite_both (fun h_ => ?_) (fun h_ => ?_)) <;> (try simp only [decide_eq_true_eq, decide_eq_false_iff_not, Bool.not_true, Bool.not_false, Bool.not_eq_true', Bool.not_eq_false', Bool.not_eq_eq_eq_not, Decidable.not_not] at h_) <;> (try simp only [r6_0, r6_1, r6_2, r6_3, r6_4, r6_5, r6_6, r6_7, r6_8, r6_9, r6_10, c6, F6, hb3, rd_of hb3, hc3, rd_of hc3, u1, u2, u3, u4, bne_iff_ne, h_, go_sem, Int.reduceTMod, Int.reduceTDiv, Int.reduceDiv, Int.reduceMod, Int.reduceAdd, Int.reduceSub, Int.reduceMul, Int.reduceNeg, Int.reducePow, Int.reduceEq, ↓reduceIte, Nat.reduceEqDiff, Nat.reduceAdd, Nat.reduceMul, Nat.reduceLeDiff, Nat.reduceSub, Nat.reduceLT, Int.reduceToNat, Int.reduceLT, Int.reduceLE, reduceCtorEq]))
  refine RK_callk ?_
  refine (w_Dash (c := c) (ph := ph) hr3.frz (hO3.rl ci1).frz (by omega) (by rw [List.length_append]; omega)).mono ?_
  rintro r4 m4 n4 ⟨x2, k2, rfl, hQ2⟩
  obtain ⟨rfl, hrow2, _, _⟩ := dash_out hQ2 (by omega) hri2 (by simp [hne])
  clear hQ2
  rw [hout2] at hrow2 ⊢
  obtain ⟨M4, hM4⟩ : ∃ M4, M4 = unfrz M3 N3 m4 := ⟨_, rfl⟩
  obtain ⟨N4, hN4⟩ : ∃ N4, N4 = max N3 n4 := ⟨_, rfl⟩
  rw [← hM4, ← hN4]
  have hf4 : ∀ id, id < N3 → M4 id = M3 id := fun id hid => by rw [hM4, unfrz_at, if_pos hid]
  have hr4 : RPt M4 N4 (.one c0) l := hr3.keep (by omega) hf4
  have hp4 : RIn M4 N4 (.one pc) pat := hp3.keep (by omega) hf4
  have hb4 : M4 n = some ⟨[c0, .sc (.bool c)], true⟩ := by rw [hf4 n (by omega)]; exact hb3
  have hc4 : M4 (n + 1) = some ⟨[pc, I ph], true⟩ := by rw [hf4 _ (by omega)]; exact hc3
  have hx4 : RowF (n + 2) M4 N4 x1 O.2 := hx3.keep (by omega) (fun id _ b => hf4 id b)
  have hy4 : RowF N3 M4 N4 x2 O.2 := hrow2.keep (by omega) (fun id a b => by rw [hM4, unfrz_at, if_neg (by omega)])
  obtain ⟨pid, poff, rfl⟩ : ∃ pid poff, pc = .sl pid poff pat.length none 1 := by
    rcases hpr with ⟨_, e⟩ | ⟨pid, poff, cap, e, _, _⟩
    · exact absurd e hne
    · simp only [Reg.one.injEq] at e
      exact ⟨pid, poff, by rw [e, hcp _ _ _ _ _ e]⟩
  have l2 : 2 ≤ pat.length := by rw [ep]; simp
  have bd1 : bnds pat.length none (some (RI 2)) none none = some (2, pat.length, none) := bnds_lo (i := 2) l2
  have bd2 : bnds pat.length none none (some (RI 2)) none = some (0, 2, none) := bnds_hi (i := 2) l2
  have hc4' : upd M4 N4 (some ⟨[], true⟩) (n + 1) = some ⟨[.sl pid poff pat.length none 1, I ph], true⟩ := by rw [upd_ne _ _ (by omega)]; exact hc4
  try simp only [r6_0, r6_1, r6_2, r6_3, r6_4, r6_5, r6_6, r6_7, r6_8, r6_9, r6_10, c6, F6, hb4, rd_of hb4, hc4, rd_of hc4, hc4', bd1, bd2, Option.map_none, Option.map_some, Nat.zero_mul, Nat.mul_one, Nat.sub_zero, Nat.add_zero, u1, u2, u3, u4, bne_iff_ne, go_sem, Int.reduceTMod, Int.reduceTDiv, Int.reduceDiv, Int.reduceMod, Int.reduceAdd, Int.reduceSub, Int.reduceMul, Int.reduceNeg, Int.reducePow, Int.reduceEq, ↓reduceIte, Nat.reduceEqDiff, Nat.reduceAdd, Nat.reduceMul, Nat.reduceLeDiff, Nat.reduceSub, Nat.reduceLT, Int.reduceToNat, Int.reduceLT, Int.reduceLE, reduceCtorEq]
  repeat' ((first | refine FK_split (fun h_ => ?_) (fun h_ => ?_) | refine GK_split (fun h_ => ?_) (fun h_ => ?_) | refine ite_both (fun h_ => ?_) (fun h_ => ?_)) <;> (try simp only [decide_eq_true_eq, decide_eq_false_iff_not, Bool.not_true, Bool.not_false, Bool.not_eq_true', Bool.not_eq_false', Bool.not_eq_eq_eq_not, Decidable.not_not] at h_) <;> (try simp only [r6_0, r6_1, r6_2, r6_3, r6_4, r6_5, r6_6, r6_7, r6_8, r6_9, r6_10, c6, F6, hb4, rd_of hb4, hc4, rd_of hc4, hc4', bd1, bd2, Option.map_none, Option.map_some, Nat.zero_mul, Nat.mul_one, Nat.sub_zero, Nat.add_zero, u1, u2, u3, u4, bne_iff_ne, h_, go_sem, Int.reduceTMod, Int.reduceTDiv, Int.reduceDiv, Int.reduceMod, Int.reduceAdd, Int.reduceSub, Int.reduceMul, Int.reduceNeg, Int.reducePow, Int.reduceEq, ↓reduceIte, Nat.reduceEqDiff, Nat.reduceAdd, Nat.reduceMul, Nat.reduceLeDiff, Nat.reduceSub, Nat.reduceLT, Int.reduceToNat, Int.reduceLT, Int.reduceLE, reduceCtorEq]))
  refine K_cat ci1 OG.of_nil (Nat.le_refl _) (fun _ _ => rfl) (xs := pat.drop 2) ((hp4.drop 2 l2).keep (m' := upd M4 N4 (some ⟨[], true⟩)) (n' := N4 + 1) (by omega) (fun id hid => upd_ne _ _ (by omega))) (by simp only [List.length_nil, List.length_drop]; omega) (by omega) ?_
  intro c5 M5 N5 hN5 hO5 hf5
  have hf5' : ∀ id, id < N4 → M5 id = M4 id := fun id hid => by
    rw [hf5 id (by omega) (by simp only [sid, ne_eq, Option.some.injEq]; omega), upd_ne _ _ (by omega)]
  have hp5 : RIn M5 N5 (.one (.sl pid poff pat.length none 1)) pat := hp4.keep (by omega) hf5'
  have hc5 : M5 (n + 1) = some ⟨[.sl pid poff pat.length none 1, I ph], true⟩ := by rw [hf5' _ (by omega)]; exact hc4
  rw [List.nil_append] at hO5
  obtain ⟨i5, p5, rfl, hi5⟩ : ∃ i5 p5, c5 = .sl i5 0 (pat.drop 2).length p5 1 ∧ N4 ≤ i5 := by
    obtain ⟨i, p, e, h1, _⟩ := hO5
    exact ⟨i, p, e, h1⟩
  have u5 : (n = N4) = False := eq_false (by omega)
  have u6 : (n + 1 = N4) = False := eq_false (by omega)
  have u7 : (n = i5) = False := eq_false (by omega)
  have u8 : (n + 1 = i5) = False := eq_false (by omega)
  try simp only [r6_0, r6_1, r6_2, r6_3, r6_4, r6_5, r6_6, r6_7, r6_8, r6_9, r6_10, c6, F6, hc5, rd_of hc5, bd1, bd2, Option.map_none, Option.map_some, Nat.zero_mul, Nat.mul_one, Nat.sub_zero, Nat.add_zero, u5, u6, u7, u8, bne_iff_ne, go_sem, Int.reduceTMod, Int.reduceTDiv, Int.reduceDiv, Int.reduceMod, Int.reduceAdd, Int.reduceSub, Int.reduceMul, Int.reduceNeg, Int.reducePow, Int.reduceEq, ↓reduceIte, Nat.reduceEqDiff, Nat.reduceAdd, Nat.reduceMul, Nat.reduceLeDiff, Nat.reduceSub, Nat.reduceLT, Int.reduceToNat, Int.reduceLT, Int.reduceLE, reduceCtorEq]
  repeat' ((first | refine FK_split (fun h_ => ?_) (fun h_ => ?_) | refine GK_split (fun h_ => ?_) (fun h_ => ?_) | refine ite_both (fun h_ => ?_) (fun h_ => ?_)) <;> (try simp only [decide_eq_true_eq, decide_eq_false_iff_not, Bool.not_true, Bool.not_false, Bool.not_eq_true', Bool.not_eq_false', Bool.not_eq_eq_eq_not, Decidable.not_not] at h_) <;> (try simp only [r6_0, r6_1, r6_2, r6_3, r6_4, r6_5, r6_6, r6_7, r6_8, r6_9, r6_10, c6, F6, hc5, rd_of hc5, bd1, bd2, Option.map_none, Option.map_some, Nat.zero_mul, Nat.mul_one, Nat.sub_zero, Nat.add_zero, u5, u6, u7, u8, bne_iff_ne, h_, go_sem, Int.reduceTMod, Int.reduceTDiv, Int.reduceDiv, Int.reduceMod, Int.reduceAdd, Int.reduceSub, Int.reduceMul, Int.reduceNeg, Int.reducePow, Int.reduceEq, ↓reduceIte, Nat.reduceEqDiff, Nat.reduceAdd, Nat.reduceMul, Nat.reduceLeDiff, Nat.reduceSub, Nat.reduceLT, Int.reduceToNat, Int.reduceLT, Int.reduceLE, reduceCtorEq]))
  refine K_cat ci1 hO5 (Nat.le_refl _) (fun _ _ => rfl) (xs := pat.take 2) (hp5.take 2 l2) (by rw [List.length_take, List.length_drop]; omega) (by omega) ?_
  intro d6 M6 N6 hN6 hO6 hf6
  have hf6' : ∀ id, id < N4 → M6 id = M4 id := fun id hid => by
    rw [hf6 id (by omega) (fun e => by have := hO5.lt e; omega), hf5' id hid]
  have hr6 : RPt M6 N6 (.one c0) l := hr4.keep (by omega) hf6'
  have hp6 : RIn M6 N6 (.one (.sl pid poff pat.length none 1)) pat := hp4.keep (by omega) hf6'
  have hb6 : M6 n = some ⟨[c0, .sc (.bool c)], true⟩ := by rw [hf6' n (by omega)]; exact hb4
  have hc6 : M6 (n + 1) = some ⟨[.sl pid poff pat.length none 1, I ph], true⟩ := by rw [hf6' _ (by omega)]; exact hc4
  have hx6 : RowF (n + 2) M6 N6 x1 O.2 := hx4.keep (by omega) (fun id _ b => hf6' id b)
  have hy6 : RowF N3 M6 N6 x2 O.2 := hy4.keep (by omega) (fun id _ b => hf6' id b)
  rw [show pat.drop 2 ++ pat.take 2 = t ++ [a, b] by rw [ep]; rfl] at hO6
  obtain ⟨id0, off0, cap0, blk, e0, hid0, hbk, hca⟩ := RL.int hp6 (i := 0) (x := a) (by rw [ep]; rfl)
  obtain ⟨id1, off1, cap1, blk1, e1, hid1, hbk1, hcb⟩ := RL.int hp6 (i := 1) (x := b) (by rw [ep]; rfl)
  simp only [Reg.one.injEq, Cell.sl.injEq, true_and, and_true] at e0 e1
  obtain ⟨rfl, rfl, _⟩ := e0
  obtain ⟨rfl, rfl, _⟩ := e1
  rw [hbk] at hbk1
  cases hbk1
  rw [Nat.add_zero] at hca
  have pa := hP.bd a (by rw [ep]; simp)
  have pb := hP.bd b (by rw [ep]; simp)
  have hph := (right_pat hri hne).2
  obtain ⟨hok, _, hlt⟩ := right_len hri hne
  have hsb := sum_bd pat hok
  have w1 : IntKind.i64.wrap (ph - a) = ph - a := wr_eq (by omega) (by omega)
  have w2 : IntKind.i64.wrap (ph - a - b) = ph - a - b := wr_eq (by omega) (by omega)
  have w3 : IntKind.i64.wrap (ph - a - b + pat.sum) = ph - a - b + pat.sum := wr_eq (by omega) (by omega)
  have z1 : (0 < (pat.length : Int)) = True := eq_true (by omega)
  have z2 : (1 < (pat.length : Int)) = True := eq_true (by omega)
  have vS := v_Sum _ pat ph _ _ hp6.frz hok (by omega)
  by_cases g7 : ph - a - b < 0
  all_goals
    first
    | rw [if_pos g7] at hri3 hout3
    | rw [if_neg g7] at hri3 hout3
    try simp only [r6_0, r6_1, r6_2, r6_3, r6_4, r6_5, r6_6, r6_7, r6_8, r6_9, r6_10, c6, F6, hb6, rd_of hb6, hc6, rd_of hc6, hbk, hca, hcb, w1, w2, w3, z1, z2, vS, g7, Nat.mul_one, Nat.add_zero, u5, u6, u7, u8, bne_iff_ne, Int.toNat_zero, Int.toNat_one, Nat.zero_mul, Nat.one_mul, go_sem, Int.reduceTMod, Int.reduceTDiv, Int.reduceDiv, Int.reduceMod, Int.reduceAdd, Int.reduceSub, Int.reduceMul, Int.reduceNeg, Int.reducePow, Int.reduceEq, ↓reduceIte, Nat.reduceEqDiff, Nat.reduceAdd, Nat.reduceMul, Nat.reduceLeDiff, Nat.reduceSub, Nat.reduceLT, Int.reduceToNat, Int.reduceLT, Int.reduceLE, reduceCtorEq]
    repeat' ((first | refine FK_split (fun h_ => ?_) (fun h_ => ?_) | refine GK_split (fun h_ => ?_) (fun h_ => ?_) | refine ite_both (fun h_ => ?_) (fun h_ => ?_)) <;> (try simp only [decide_eq_true_eq, decide_eq_false_iff_not, Bool.not_true, Bool.not_false, Bool.not_eq_true', Bool.not_eq_false', Bool.not_eq_eq_eq_not, Decidable.not_not] at h_) <;> (try simp only [r6_0, r6_1, r6_2, r6_3, r6_4, r6_5, r6_6, r6_7, r6_8, r6_9, r6_10, c6, F6, hb6, rd_of hb6, hc6, rd_of hc6, hbk, hca, hcb, w1, w2, w3, z1, z2, vS, g7, Nat.mul_one, Nat.add_zero, u5, u6, u7, u8, bne_iff_ne, Int.toNat_zero, Int.toNat_one, Nat.zero_mul, Nat.one_mul, h_, go_sem, Int.reduceTMod, Int.reduceTDiv, Int.reduceDiv, Int.reduceMod, Int.reduceAdd, Int.reduceSub, Int.reduceMul, Int.reduceNeg, Int.reducePow, Int.reduceEq, ↓reduceIte, Nat.reduceEqDiff, Nat.reduceAdd, Nat.reduceMul, Nat.reduceLeDiff, Nat.reduceSub, Nat.reduceLT, Int.reduceToNat, Int.reduceLT, Int.reduceLE, reduceCtorEq]))
    refine RK_callk ?_
    refine (w_Dash hr6.frz (hO6.rl ci1).frz (by omega) (by rcases ht with rfl | ⟨_, _, rfl⟩ <;> simp)).mono ?_
    rintro r6 m7 n7 ⟨x3, k3, rfl, hQ3⟩
    obtain ⟨rfl, hrow3, _, _⟩ := dash_out hQ3 (by omega) hri3 (by simp)
    clear hQ3
    rw [hout3] at hrow3 ⊢
    obtain ⟨M7, hM7⟩ : ∃ M7, M7 = unfrz M6 N6 m7 := ⟨_, rfl⟩
    obtain ⟨N7, hN7⟩ : ∃ N7, N7 = max N6 n7 := ⟨_, rfl⟩
    rw [← hM7, ← hN7]
    have hf7 : ∀ id, id < N6 → M7 id = M6 id := fun id hid => by rw [hM7, unfrz_at, if_pos hid]
    have hx7 : RowF (n + 2) M7 N7 x1 O.2 := hx6.keep (by omega) (fun id _ b => hf7 id b)
    have hy7 : RowF N3 M7 N7 x2 O.2 := hy6.keep (by omega) (fun id _ b => hf7 id b)
    have hz7 : RowF N6 M7 N7 x3 O.2 := hrow3.keep (by omega) (fun id a b => by rw [hM7, unfrz_at, if_neg (by omega)])
    have va := v_alike hx7.frz hy7.frz hls1 hls2
    have vb := v_alike hx7.frz hz7.frz hls1 hls2
    try simp only [r6_0, r6_1, r6_2, r6_3, r6_4, r6_5, r6_6, r6_7, r6_8, r6_9, r6_10, c6, F6, va, vb, v_awake, go_sem, Int.reduceTMod, Int.reduceTDiv, Int.reduceDiv, Int.reduceMod, Int.reduceAdd, Int.reduceSub, Int.reduceMul, Int.reduceNeg, Int.reducePow, Int.reduceEq, ↓reduceIte, Nat.reduceEqDiff, Nat.reduceAdd, Nat.reduceMul, Nat.reduceLeDiff, Nat.reduceSub, Nat.reduceLT, Int.reduceToNat, Int.reduceLT, Int.reduceLE, reduceCtorEq]
    repeat' ((first | refine FK_split (fun h_ => ?_) (fun h_ => ?_) | refine GK_split (fun h_ => ?_) (fun h_ => ?_) | refine ite_both (fun h_ => ?_) (fun h_ => ?_)) <;> (try simp only [decide_eq_true_eq, decide_eq_false_iff_not, Bool.not_true, Bool.not_false, Bool.not_eq_true', Bool.not_eq_false', Bool.not_eq_eq_eq_not, Decidable.not_not] at h_) <;> (try simp only [r6_0, r6_1, r6_2, r6_3, r6_4, r6_5, r6_6, r6_7, r6_8, r6_9, r6_10, c6, F6, va, vb, v_awake, h_, go_sem, Int.reduceTMod, Int.reduceTDiv, Int.reduceDiv, Int.reduceMod, Int.reduceAdd, Int.reduceSub, Int.reduceMul, Int.reduceNeg, Int.reducePow, Int.reduceEq, ↓reduceIte, Nat.reduceEqDiff, Nat.reduceAdd, Nat.reduceMul, Nat.reduceLeDiff, Nat.reduceSub, Nat.reduceLT, Int.reduceToNat, Int.reduceLT, Int.reduceLE, reduceCtorEq]))

/- Arguments that are structs with slices in them, opened for the evaluator. Conditions: those that each theorem names. -/
open Go.RowKit Go.ChangeShapes Go.WideShapes Go.Deep
set_option linter.unusedVariables false

/-- What a cell holds that is a slice of flat elements. -/
def SlOk (w : World) (ks : List CK) (v : Value) : Prop :=
  v = .slice none 0 0 ∨ ∃ b o len cap vs, v = .slice (some ⟨b, o, none⟩) len cap ∧ b < w.heap.size ∧ len ≤ cap ∧ cap ≤ maxLen ∧ RowsOk ks cap vs ∧ ∀ (i : Nat) (x : Value), vs[i]? = some x → w.cell? ⟨b, o + i, none⟩ = some x

/-- A struct all of whose fields take one cell. -/
theorem arg_mix {P : Program} {T : TypeId} {fs : Array Field} {ts : List TypeId} (ht : P.underlying T = some (.struct fs)) (hts : P.cellTypes P.depth T = some ts) {H : Type} {enc : TypeId × Value → H} {w : World} {base base' : Nat} {held : Bool} {v : Value} {d : DataW H} {ps : List MemPlace}
    (hv : Value.okWide P w .any base' T v) (h : DataW.Trod enc P w base (fun _ => true) held T v d ps) :
    ∃ cs : List Value, v = .agg cs.toArray ∧ cs.length = P.cellsOf T ∧ ∀ (j : Nat) (f : Field) (c : Value), fs[j]? = some f → P.cellsOf f.type = 1 → (∀ u, ts[f.offset % ts.length]? = some u → u = f.type) → cs[f.offset]? = some c →
      Cell.okWide P w .any base' f.type c ∧ ∃ x fuel, DataW.trod enc P w base (fun _ => true) held fuel f.type [c] = some x := by
  simp only [Value.okWide, ht] at hv
  obtain ⟨cs, rfl, hsz, ts', h1, h2, h3⟩ := hv
  obtain rfl := Option.some.inj (hts.symm.trans h1)
  obtain ⟨fuel, hf⟩ := h
  have hf' : DataW.trod enc P w base (fun _ => true) held fuel T cs.toList = some (d, ps) := hf
  obtain ⟨xs, n, _, _, hl, hxs, hg⟩ := DataW.trod_struct ht hf'
  refine ⟨cs.toList, by simp, by simpa using hsz, fun j f c hj hc1 hu hc => ?_⟩
  obtain ⟨u, hu1, hu2⟩ := h3 f.offset c (by simpa using hc)
  have e := hu u hu1
  subst e
  refine ⟨hu2, ?_⟩
  have h4 := hg j f hj
  rw [hc1] at h4
  have h5 : (cs.toList.drop f.offset).take 1 = [c] := by
    have hlt := (List.getElem?_eq_some_iff.1 hc).1
    rw [List.drop_eq_getElem_cons hlt]
    have := (List.getElem?_eq_some_iff.1 hc).2
    simp [this]
  rw [h5] at h4
  have hjn : j < xs.length := by
    have := (Array.getElem?_eq_some_iff.1 hj).1
    omega
  rw [List.getElem?_eq_getElem hjn] at h4
  exact ⟨_, n, h4⟩

theorem mix_slice {P : Program} {T e : TypeId} {ks : List CK} {k : Nat} (ht : P.underlying T = some (.slice e)) (hk : kindsK P k e = some ks) (hc : P.cellsOf e = ks.length) (h0 : ks.length ≠ 0) {H : Type} {enc : TypeId × Value → H} {w : World} {base base' : Nat} {held : Bool} {c : Value}
    (h : Cell.okWide P w .any base' T c ∧ ∃ x fuel, DataW.trod enc P w base (fun _ => true) held fuel T [c] = some x) : SlOk w ks c := by
  obtain ⟨hv, ⟨d, ps⟩, fuel, hf⟩ := h
  have hv2 : Value.okWide P w .any base' T c := by simp only [Value.okWide, ht]; exact hv
  obtain ⟨a, len, cap, rfl⟩ := okWide_slice ht hv2
  exact arg_slice ht hk hc h0 hv2 ⟨fuel, hf⟩
theorem mix_int {P : Program} {T : TypeId} {k : IntKind} (ht : P.underlying T = some (.int k)) {H : Type} {enc : TypeId × Value → H} {w : World} {base base' : Nat} {held : Bool} {c : Value}
    (h : Cell.okWide P w .any base' T c ∧ ∃ x fuel, DataW.trod enc P w base (fun _ => true) held fuel T [c] = some x) : ∃ n, c = .int k n ∧ k.min ≤ n ∧ n ≤ k.max := by
  obtain ⟨hv, x, fuel, hf⟩ := h
  obtain ⟨n, e, _, hw⟩ := DataW.trod_int ht hf
  obtain rfl := (List.cons.inj e).1
  exact ⟨n, rfl, has_of_wf hw⟩
theorem mix_bool {P : Program} {T : TypeId} (ht : P.underlying T = some .bool) {H : Type} {enc : TypeId × Value → H} {w : World} {base base' : Nat} {held : Bool} {c : Value}
    (h : Cell.okWide P w .any base' T c ∧ ∃ x fuel, DataW.trod enc P w base (fun _ => true) held fuel T [c] = some x) : ∃ b, c = .bool b := by
  obtain ⟨hv, x, fuel, hf⟩ := h
  obtain ⟨b, e, _⟩ := DataW.trod_bool ht hf
  obtain rfl := (List.cons.inj e).1
  exact ⟨b, rfl⟩

/-- A slice cell, laid into the evaluator's memory under the number n. -/
theorem mix_lay {ρ : Loc} {n : Nat} {w : World} {m : Mem} (hm : MRel ρ n w m) (hh : Held m) {ks : List CK} {v : Value} (h : SlOk w ks v) :
    ∃ (ρ' : Loc) (n' : Nat) (m' : Mem) (c : Cell), MRel ρ' n' w m' ∧ Held m' ∧ Le ρ n w ρ' n' w ∧ CRel ρ' n' w c v ∧ (∀ id, id < n → m' id = m id) ∧ n' = n + 1 ∧
      ((c = .sc (.slice none 0 0) ∧ v = .slice none 0 0) ∨ ∃ len cap vs, c = .sl n 0 len none ks.length ∧ len ≤ cap ∧ cap ≤ maxLen ∧ RowsOk ks cap vs ∧ m' n = some ⟨vs.map .sc, false⟩) := by
  rcases h with rfl | ⟨b, o, len, cap, vs, rfl, hb, hl, hm2, hr, hc⟩
  · have hmm : MRel ρ (n + 1) w m := by
      refine ⟨fun id bl h => by have := hm.lt id bl h; omega, hm.blk, fun id bl h i c hi => ?_, hm.soft, hm.apart⟩
      obtain ⟨x, h1, h2⟩ := hm.cells id bl h i c hi
      exact ⟨x, h1, CRel.mono ⟨by omega, fun _ _ => rfl, fun _ h => h⟩ _ _ h2⟩
    exact ⟨ρ, n + 1, m, .sc (.slice none 0 0), hmm, hh, ⟨by omega, fun _ _ => rfl, fun _ h => h⟩, by simp [CRel, Value.oneCell'], fun _ _ => rfl, rfl, Or.inl ⟨rfl, rfl⟩⟩
  · have hlen : vs.length = cap * ks.length := by
      have := hr.len
      simpa using this
    have hs := addSl (ρ := ρ) (n := n) (w := w) (len := len) (sz := ks.length) hl hlen hc
    exact ⟨atL ρ n b o, n + 1, _, .sl n 0 len none ks.length, addRow hm hh hb hr hc, held_upd hh n _, atL_le, hs, fun id hid => upd_ne _ _ (by omega), rfl, Or.inr ⟨len, cap, vs, rfl, hl, hm2, hr, upd_same _ _ _⟩⟩

/- Subpaths as_ arguments, opened. Conditions: those that each theorem names. -/
open Go Go.Proofs Go.RowKit Go.ChangeShapes Go.WideShapes Go.Deep
set_option linter.unusedVariables false

theorem pts_of {cap : Nat} {vs : List Value} (h : RowsOk [.int .i64, .int .i64] cap vs) : ∃ l : List Pt, l.length = cap ∧ vs.map .sc = l.flatMap Pt.cs := by
  unfold RowsOk at h
  induction cap generalizing vs with
  | zero => simp only [List.replicate_zero, List.flatten_nil, CksOk] at h; subst h; exact ⟨[], rfl, rfl⟩
  | succ k ih =>
    rw [List.replicate_succ, List.flatten_cons] at h
    simp only [List.cons_append, List.nil_append, CksOk] at h
    obtain ⟨x, r, rfl, h1, y, r', rfl, h2, h3⟩ := h
    obtain ⟨l, e1, e2⟩ := ih h3
    exact ⟨⟨x, y⟩ :: l, by simp [e1], by simp [e2, Pt.cs]⟩
/-- A slice of points, laid: it is read. -/
theorem pts_rl {m : Mem} {n : Nat} {c : Cell} {v : Value} (h : (c = .sc (.slice none 0 0) ∧ v = .slice none 0 0) ∨ ∃ len cap vs, c = .sl n 0 len none [CK.int .i64, CK.int .i64].length ∧ len ≤ cap ∧ cap ≤ maxLen ∧ RowsOk [.int .i64, .int .i64] cap vs ∧ m n = some ⟨vs.map .sc, false⟩) :
    ∃ l : List Pt, RPt m (n + 1) (.one c) l := by
  rcases h with ⟨rfl, _⟩ | ⟨len, cap, vs, rfl, h1, _, h2, h3⟩
  · exact ⟨[], Or.inl ⟨rfl, rfl⟩⟩
  · obtain ⟨l, e1, e2⟩ := pts_of h2
    have hlen : (l.take len).length = len := by rw [List.length_take]; omega
    refine ⟨l.take len, Or.inr ⟨n, 0, none, by rw [hlen]; rfl, by omega, ?_⟩⟩
    rw [rd_of h3, hlen, e2]
    have e4 : (l.flatMap Pt.cs).length = cap * 2 := by rw [flatMap_len Pt.cs 2 cs2, e1]
    unfold rdB
    rw [if_pos (by show 0 + len * 2 ≤ (l.flatMap Pt.cs).length; rw [e4]; omega), List.drop_zero]
    congr 1
    have : ∀ (l : List Pt) (k : Nat), (l.flatMap Pt.cs).take (k * 2) = (l.take k).flatMap Pt.cs := by
      intro l
      induction l with
      | nil => intro k; simp
      | cons x l ih =>
        intro k
        cases k with
        | zero => simp
        | succ k =>
          rw [show (k + 1) * 2 = k * 2 + 1 + 1 by omega]
          simp [ih k]
    exact this l len
set_option maxRecDepth 100000 in
theorem open33 {H : Type} {enc : TypeId × Value → H} {w : World} {base base' : Nat} {held : Bool} {v : Value} {d : DataW H} {ps : List MemPlace} (hv : Value.okWide Try.prog w .any base' 33 v) (h : DataW.Trod enc Try.prog w base (fun _ => true) held 33 v d ps) :
    ∃ c b, v = .agg #[c, .bool b] ∧ SlOk w [.int .i64, .int .i64] c := by
  obtain ⟨cs, rfl, hl, hf⟩ := arg_mix (ts := [31, 4]) Try.underlying33 (by kernel_rfl) hv h
  rw [show Try.prog.cellsOf 33 = 2 by kernel_rfl] at hl
  match cs, hl with
  | [c, p], _ =>
    have h0 := hf 0 _ c rfl (by kernel_rfl) (fun u hu => (Option.some.inj hu).symm) rfl
    have h1 := hf 1 _ p rfl (by kernel_rfl) (fun u hu => (Option.some.inj hu).symm) rfl
    obtain ⟨b, rfl⟩ := mix_bool Try.underlying4 h1
    exact ⟨c, b, rfl, mix_slice (k := 8) Try.underlying31 (by kernel_rfl) (by kernel_rfl) (by decide) h0⟩

/- Patterns as_ arguments, opened. Conditions: those that each theorem names. -/
open Go Go.Proofs Go.RowKit Go.ChangeShapes Go.WideShapes Go.Deep
set_option linter.unusedVariables false

theorem ints_of {cap : Nat} {vs : List Value} (h : RowsOk [.int .i64] cap vs) : ∃ l : List Int, l.length = cap ∧ vs.map .sc = l.flatMap encI ∧ ∀ x ∈ l, -9223372036854775808 ≤ x ∧ x ≤ 9223372036854775807 := by
  unfold RowsOk at h
  induction cap generalizing vs with
  | zero => simp only [List.replicate_zero, List.flatten_nil, CksOk] at h; subst h; exact ⟨[], rfl, rfl, by simp⟩
  | succ k ih =>
    rw [List.replicate_succ, List.flatten_cons] at h
    simp only [List.cons_append, List.nil_append, CksOk] at h
    obtain ⟨n, r, rfl, h1, h2⟩ := h
    obtain ⟨l, e1, e2, e3⟩ := ih h2
    simp only [IntKind.min, IntKind.max, IntKind.signed, IntKind.bits] at h1
    refine ⟨n :: l, by simp [e1], by simp [e2], fun x hx => ?_⟩
    rcases List.mem_cons.1 hx with rfl | hx
    · simp at h1; omega
    · exact e3 x hx
/-- A slice of ints, laid: it is read. -/
theorem ints_rl {m : Mem} {n : Nat} {c : Cell} {v : Value} (h : (c = .sc (.slice none 0 0) ∧ v = .slice none 0 0) ∨ ∃ len cap vs, c = .sl n 0 len none [CK.int .i64].length ∧ len ≤ cap ∧ cap ≤ maxLen ∧ RowsOk [.int .i64] cap vs ∧ m n = some ⟨vs.map .sc, false⟩) :
    ∃ l : List Int, RIn m (n + 1) (.one c) l ∧ ∀ x ∈ l, -9223372036854775808 ≤ x ∧ x ≤ 9223372036854775807 := by
  rcases h with ⟨rfl, _⟩ | ⟨len, cap, vs, rfl, h1, _, h2, h3⟩
  · exact ⟨[], Or.inl ⟨rfl, rfl⟩, by simp⟩
  · obtain ⟨l, e1, e2, e3⟩ := ints_of h2
    have hlen : (l.take len).length = len := by rw [List.length_take]; omega
    refine ⟨l.take len, Or.inr ⟨n, 0, none, by rw [hlen]; rfl, by omega, ?_⟩, fun x hx => e3 x (List.mem_of_mem_take hx)⟩
    rw [rd_of h3, hlen, e2]
    have e4 : (l.flatMap encI).length = cap := by rw [flatMap_len encI 1 ci1, e1, Nat.mul_one]
    unfold rdB
    rw [if_pos (by rw [e4]; omega), List.drop_zero, Nat.mul_one]
    congr 1
    have : ∀ (l : List Int) (k : Nat), (l.flatMap encI).take k = (l.take k).flatMap encI := by
      intro l
      induction l with
      | nil => intro k; simp
      | cons x l ih =>
        intro k
        cases k with
        | zero => simp
        | succ k => simp [ih k]
    exact this l len
set_option maxRecDepth 100000 in
theorem open24 {H : Type} {enc : TypeId × Value → H} {w : World} {base base' : Nat} {held : Bool} {v : Value} {d : DataW H} {ps : List MemPlace} (hv : Value.okWide Try.prog w .any base' 24 v) (h : DataW.Trod enc Try.prog w base (fun _ => true) held 24 v d ps) :
    ∃ c ph, v = .agg #[c, .int .i64 ph] ∧ (-9223372036854775808 ≤ ph ∧ ph ≤ 9223372036854775807) ∧ SlOk w [.int .i64] c := by
  obtain ⟨cs, rfl, hl, hf⟩ := arg_mix (ts := [22, 3]) Try.underlying24 (by kernel_rfl) hv h
  rw [show Try.prog.cellsOf 24 = 2 by kernel_rfl] at hl
  match cs, hl with
  | [c, p], _ =>
    have h0 := hf 0 _ c rfl (by kernel_rfl) (fun u hu => (Option.some.inj hu).symm) rfl
    have h1 := hf 1 _ p rfl (by kernel_rfl) (fun u hu => (Option.some.inj hu).symm) rfl
    obtain ⟨ph, rfl, h2, h3⟩ := mix_int Try.underlying3 h1
    refine ⟨c, ph, rfl, ?_, mix_slice (k := 8) Try.underlying22 (by kernel_rfl) (by kernel_rfl) (by decide) h0⟩
    simp only [IntKind.min, IntKind.max, IntKind.signed, IntKind.bits] at h2 h3
    simp at h2 h3
    omega

/- The row DashTurns. Conditions: those that each theorem names. -/
open Go Go.Proofs
open Go.RowKit Go.ChangeShapes Go.WideShapes Go.Deep
set_option linter.unusedVariables false

theorem rowL6 (hmix : Try.prog.follows .mixedOrders = true) (W : World) (v1 : Value) (h1 : ∃ c b, v1 = .agg #[c, .bool b] ∧ SlOk W [.int .i64, .int .i64] c) (v2 : Value) (h2 : ∃ c ph, v2 = .agg #[c, .int .i64 ph] ∧ (-9223372036854775808 ≤ ph ∧ ph ≤ 9223372036854775807) ∧ SlOk W [.int .i64] c) :
    Calls Try.prog 6 #[v1, v2] W (fun e w' => e = .returned (.bool true) ∧ Go.RowKit.Below W.heap.size W w') := by
  obtain ⟨a, b, rfl, hs1⟩ := h1
  obtain ⟨d, ph, rfl, _, hs2⟩ := h2
  obtain ⟨ρ1, n1, m1, k1, hm1, hh1, le1, hc1, old1, rfl, q1⟩ := mix_lay (noMem (fun _ => (0, 0)) 0 W) held_none hs1
  obtain ⟨ρ2, n2, m2, k2, hm2, hh2, le2, hc2, old2, rfl, q2⟩ := mix_lay hm1 hh1 hs2
  obtain ⟨l, r1⟩ := pts_rl q1
  have hcp : ∀ id off k cap sz, k2 = .sl id off k cap sz → cap = none := by
    intro id off k cap sz e
    rcases q2 with ⟨e2, _⟩ | ⟨len, cp, vs, e2, _⟩
    · rw [e2] at e; cases e
    · rw [e2] at e
      simp only [Cell.sl.injEq] at e
      exact e.2.2.2.1.symm
  obtain ⟨pat, r2, _⟩ := ints_rl q2
  refine law_calls (ng := 0) (ρ := ρ2) (n := 2) hmix TA_ok (law6 k1 k2 l b pat ph m2 2 (r1.keep (by omega) (fun id hid => old2 id (by omega))) r2 hcp) hm2 (fun _ h => by omega) ⟨_, _, rfl, ⟨_, rfl, _, _, rfl, CRel.mono le2 _ _ hc1, _, _, rfl, ⟨rfl, rfl⟩, rfl⟩, _, _, rfl, ⟨_, rfl, _, _, rfl, hc2, _, _, rfl, ⟨rfl, rfl⟩, rfl⟩, rfl⟩ hh2

end Go.Proofs.Ytoakdmjpbachdaa.Sy
