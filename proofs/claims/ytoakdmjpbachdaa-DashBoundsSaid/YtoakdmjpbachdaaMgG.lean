import Derived.Test.YtoakdmjpbachdaaMgF
/- A pen that goes along a line walked. Conditions: those that each theorem names. -/
namespace Go.Proofs.Ytoakdmjpbachdaa.Sy
open Go Go.Proofs
set_option linter.unusedSimpArgs false
set_option linter.unusedVariables false
set_option maxRecDepth 20000
attribute [local go_sem] XK_seq XK_block XK_skip XK_exit XK_ret XK_cond XK_reg XK_dreg XK_ureg KN_seq KN_blk KN_lp KN_chk KN_chku KN_top KN_fin KX_seq KX_lp KX_blk KX_chk KX_top KR_seq KR_blk KR_lp KR_chk KR_top KR_fin FK_true FK_false RK_nil RK_mv RK_pick RK_alloc RK_box RK_build RK_bslice RK_load1 RK_loadA RK_store RK_nilchk RK_bin RK_beq RK_eqv RK_eqnil RK_un RK_conv RK_mkfn RK_mkslice RK_slS RK_slA RK_fadr RK_fld RK_iadrA RK_iadrS RK_idxA RK_ext RK_lenC RK_cap RK_app RK_cpy RK_mn RK_mx RK_len RK_carry RK_clr carryR um0 um1 ThenK_some RK_guard GK_tt GK_ff GK_tf GK_ft GK_none QK_some RK_callQ RK_callZ VK_clo RK_callV
  evalOp evO evOs upd_at unfrz_at putE_some putE_none boolOf_b boolOf_tup Option.map_some evRes pack_one pack_two pack_three pack_none List.getD_cons_zero List.getD_cons_succ getD_nil
  Option.some.injEq exists_eq_left' Reg.cs? fillC setL List.set_cons_zero List.set_cons_succ List.length_cons List.length_nil rd_upd rd_updn rdB wr List.drop_zero List.drop_succ_cons List.take_succ_cons List.take_zero List.getElem?_cons_zero List.getElem?_cons_succ
  ix Int.toNat_zero lenO_sl lenO_nil nadd na_eq na_eq' na_lt na_ee na_ll na_ne na_ne' na_tt
attribute [local go_sem] Reg.flat_one Reg.flat_agg Reg.flat_tup flats_nil flats_cons Cell.flat_sc Cell.flat_ptr List.all_cons List.all_nil disOk safeOk safeR decide_eq_true_eq decide_eq_false_iff_not
  List.map_cons List.map_nil List.cons_append List.nil_append List.append_nil evalOp.capsOf Bool.false_bne Bool.bne_false Bool.true_bne Bool.bne_true bne_self_eq_false beq_self_eq_true Bool.not_not Bool.false_and Bool.and_false Bool.true_or Bool.or_true beq_iff_eq eqCells
  Bool.true_beq Bool.false_beq Bool.not_eq_true' Bool.not_eq_eq_eq_not Bool.not_eq_false' and_false false_and frz_at idOf Option.isSome_some Bool.and_eq_true
attribute [local go_sem] wr_eq bV_add bV_sub bV_mul bV_eql bV_neq bV_lss bV_leq bV_gtr bV_geq bV_quo bV_rem bV_shr bV_shl uV_not uV_neg wrapU bits_and bits_or bits_xor IntKind.bits Nat.min_eq_left Nat.min_eq_right Nat.min_self
attribute [local go_sem] bne_iff_ne Int.cast_ofNat_Int Nat.zero_add Nat.add_zero and_self and_true true_and ne_eq not_false_eq_true not_true_eq_false decide_true decide_false Bool.false_eq_true Bool.not_true Bool.not_false Bool.true_and Bool.and_true Bool.or_false Bool.false_or Bool.and_self

theorem lenQ_bd {a b : Pt} (hl : longB (b.x - a.x) (b.y - a.y) = false) : 0 ≤ lenQ a b ∧ lenQ a b ≤ 1073741824 := by
  have sq := sq_bd hl
  have hn : 0 ≤ (b.x - a.x) * (b.x - a.x) + (b.y - a.y) * (b.y - a.y) := by omega
  exact ⟨(isq_spec hn).1, isq_le hn (by decide) (by omega)⟩
/-- What a line leaves. -/
def LineQ (A : Nat → Prop) (pid : Nat) (pat : List Int) (C : Int) (pc : Cell) (ph : Int) (res : Option (Int × Int × List (List Pt))) (m : Mem) (n : Nat) (r' : Reg) (m' : Mem) (n' : Nat) : Prop :=
  n ≤ n' ∧ (∀ id, id < n → (id < pid ∨ A id) → m' id = m id) ∧ (res = none → r' = RB false) ∧ ∀ k' left' ls', res = some (k', left', ls') → r' = RB true ∧ DPen A pid m' n' pc ph k' left' ls' ∧ LineI pat C k' left' ls'
theorem LineI.point {pat : List Int} {C k left left' : Int} {ls : List (List Pt)} (h : LineI pat C k left ls) (b : Pt) (h0 : 0 ≤ left') (h1 : left' ≤ left) : LineI pat (C + 1) k left' (if k % 2 = 0 then addL ls b else ls) := by
  refine ⟨h.k0, h.k1, h0, by have := h.l1; omega, fun he => ?_, ?_, fun l hl => ?_⟩
  · rw [if_pos he]
    intro e
    have := addL_len ls b
    rw [e] at this
    exact h.ne he (List.length_eq_zero_iff.1 this.symm)
  · have := h.le
    split
    · rw [addL_len]; exact this
    · exact this
  · split at hl
    · rename_i hk
      rw [if_pos hk, addL_len]
      obtain ⟨l0, m1, m2⟩ := addL_mem ls b l hl
      have := h.bd l0 m1
      rcases m2 with rfl | rfl
      · omega
      · rw [List.length_append, List.length_singleton]; omega
    · rename_i hk
      rw [if_neg hk]
      have := h.bd l hl
      omega
set_option maxHeartbeats 4000000 in
theorem w_line {A : Nat → Prop} {pid : Nat} {m : Mem} {n : Nat} {pc : Cell} {ph k left C : Int} {ls : List (List Pt)} {a b : Pt} {pat : List Int} (h : DPen A pid m n pc ph k left ls) (hA : ∀ j, A j → j < n) (hAp : ¬ A pid) (hr : RIn m n (.one pc) pat) (hb : ∀ id, sid (.one pc) = some id → id < pid)
    (hP : PatI pat) (hL : LineI pat C k left ls) (hC : 1 ≤ C ∧ C ≤ 4294900000) (ha : inP a = true) (hbi : inP b = true) (hlg : longB (b.x - a.x) (b.y - a.y) = false) :
    Fn TA 40 [.one (.ptr pid 0), .agg [I a.x, I a.y], .agg [I b.x, I b.y]] m n (LineQ A pid pat (C + 1) pc ph (lineS pat a b k left ls) m n) := by
  refine Fn_ofK (fn := F40) rfl (by simp [F40]) ?_
  have ha' : inP ⟨a.x, a.y⟩ = true := ha
  have hb' : inP ⟨b.x, b.y⟩ = true := hbi
  have vL := v_Length a.x a.y b.x b.y
  rw [ha', hb', Bool.and_self, if_pos rfl, if_neg (by rw [hlg]; simp)] at vL
  have hN := lenQ_bd hlg
  rw [show isq ((b.x - a.x) * (b.x - a.x) + (b.y - a.y) * (b.y - a.y)) = lenQ a b from rfl] at vL
  obtain ⟨R, hR⟩ : ∃ R, R = lineGo pat a b (lenQ a b) (2 * (lenQ a b).toNat + 2) 0 k left ls := ⟨_, rfl⟩
  have hS : lineS pat a b k left ls = lineE (lenQ a b) b R := by rw [hR]; rfl
  rw [hS]
  have hpn : pid < n := by obtain ⟨_, _, h2, _⟩ := h; exact h2
  obtain ⟨M0, hM0⟩ : ∃ M0, M0 = upd (upd m n (some ⟨[I a.x, I a.y], true⟩)) (n + 1) (some ⟨[I b.x, I b.y], true⟩) := ⟨_, rfl⟩
  have hD0 : DPen (fun j => A j ∨ j = n ∨ j = n + 1) pid M0 (n + 2) pc ph k left ls := h.keep (by omega) (by rw [hM0, upd_ne _ _ (by omega), upd_ne _ _ (by omega)]) (fun id q1 q2 q3 => by rw [hM0, upd_ne _ _ (by omega), upd_ne _ _ (by omega)]) (fun j q1 q2 => by rcases q2 with q2 | q2 | q2 <;> first | exact q2 | omega)
  have hf0 : ∀ id, id < n → M0 id = m id := fun id hid => by rw [hM0, upd_ne _ _ (by omega), upd_ne _ _ (by omega)]
  generalize hNN : lenQ a b = NN at *
  try simp only [r40_0, r40_1, r40_2, r40_3, r40_4, r40_5, r40_6, r40_7, r40_8, r40_9, r40_10, r40_11, c40, F40, vL, go_sem, Int.reduceTMod, Int.reduceTDiv, Int.reduceDiv, Int.reduceMod, Int.reduceAdd, Int.reduceSub, Int.reduceMul, Int.reduceNeg, Int.reducePow, Int.reduceEq, ↓reduceIte, Nat.reduceEqDiff, Nat.reduceAdd, Nat.reduceMul, Nat.reduceLeDiff, Nat.reduceSub, Nat.reduceLT, Int.reduceToNat, Int.reduceLT, Int.reduceLE, reduceCtorEq]
  repeat' ((first | refine FK_split (fun h_ => ?_) (fun h_ => ?_) | refine GK_split (fun h_ => ?_) (fun h_ => ?_) | refine ite_both (fun h_ => ?_) (fun h_ => ?_)) <;> (try simp only [decide_eq_true_eq, decide_eq_false_iff_not, Bool.not_true, Bool.not_false, Bool.not_eq_true', Bool.not_eq_false', Bool.not_eq_eq_eq_not, Decidable.not_not] at h_) <;> (try simp only [r40_0, r40_1, r40_2, r40_3, r40_4, r40_5, r40_6, r40_7, r40_8, r40_9, r40_10, r40_11, c40, F40, vL, h_, go_sem, Int.reduceTMod, Int.reduceTDiv, Int.reduceDiv, Int.reduceMod, Int.reduceAdd, Int.reduceSub, Int.reduceMul, Int.reduceNeg, Int.reducePow, Int.reduceEq, ↓reduceIte, Nat.reduceEqDiff, Nat.reduceAdd, Nat.reduceMul, Nat.reduceLeDiff, Nat.reduceSub, Nat.reduceLT, Int.reduceToNat, Int.reduceLT, Int.reduceLE, reduceCtorEq]))
  rw [← hM0]
  refine XK_down (inv := fun d s => ∃ f t k1 left1 ls1, lineGo pat a b NN f t k1 left1 ls1 = R ∧ d = meas NN t left1 ∧ d < f ∧ (0 ≤ t ∧ t ≤ NN) ∧ LineI pat C k1 left1 ls1 ∧ s.e 7 = RI NN ∧ s.e 9 = RI t ∧ s.e 0 = .one (.ptr pid 0) ∧ s.e 4 = .one (.ptr n 0) ∧ s.e 5 = .one (.ptr (n + 1) 0) ∧ n + 2 ≤ s.n ∧
      DPen (fun j => A j ∨ j = n ∨ j = n + 1) pid s.m s.n pc ph k1 left1 ls1 ∧ (∀ id, id < n + 2 → (id < pid ∨ A id ∨ id = n ∨ id = n + 1) → s.m id = M0 id))
    (fun L _ d s hs next => ?_) (meas NN 0 left) _ ⟨2 * NN.toNat + 2, 0, k, left, ls, hR.symm, rfl, ?_, ⟨by omega, hN.1⟩, hL, ?_, ?_, ?_, ?_, ?_, Nat.le_refl _, hD0, fun _ _ _ => rfl⟩
  · obtain ⟨e, M, N⟩ := s
    obtain ⟨f, t, k1, left1, ls1, hgo, hd, hdf, ht, hI, q7, q9, q0, q4, q5, qn, hD, hfr⟩ := hs
    simp only at q7 q9 q0 q4 q5 qn hD hfr
    obtain ⟨oc, gp, gpn, gO⟩ := hD
    obtain ⟨f', rfl⟩ : ∃ f', f = f' + 1 := ⟨f - 1, by omega⟩
    have w1 : IntKind.i64.wrap (NN - t) = NN - t := wr_eq (by omega) (by omega)
    have hl0 := hI.l0
    have hl1 := hI.l1
    rw [lineGo] at hgo
    by_cases g : left1 < NN - t
    · rw [if_pos g] at hgo
      have w2 : IntKind.i64.wrap (t + left1) = t + left1 := wr_eq (by omega) (by omega)
      have vp := v_dplace (t := t + left1) (n := NN) ha' hb' hlg (by omega) (by omega) (by omega) hN.2
      have b1 : M n = some ⟨[I a.x, I a.y], true⟩ := by rw [hfr n (by omega) (by omega), hM0, upd_ne _ _ (by omega), upd_same]
      have b2 : M (n + 1) = some ⟨[I b.x, I b.y], true⟩ := by rw [hfr (n + 1) (by omega) (by omega), hM0, upd_same]
      generalize placeP a.x a.y b.x b.y (t + left1) NN = pp at *
      try simp only [r40_0, r40_1, r40_2, r40_3, r40_4, r40_5, r40_6, r40_7, r40_8, r40_9, r40_10, r40_11, c40, F40, l40_0, q7, q9, q0, q4, q5, gp, w1, g, w2, b1, rd_of b1, b2, rd_of b2, vp, go_sem, Int.reduceTMod, Int.reduceTDiv, Int.reduceDiv, Int.reduceMod, Int.reduceAdd, Int.reduceSub, Int.reduceMul, Int.reduceNeg, Int.reducePow, Int.reduceEq, ↓reduceIte, Nat.reduceEqDiff, Nat.reduceAdd, Nat.reduceMul, Nat.reduceLeDiff, Nat.reduceSub, Nat.reduceLT, Int.reduceToNat, Int.reduceLT, Int.reduceLE, reduceCtorEq]
      repeat' ((first | refine FK_split (fun h_ => ?_) (fun h_ => ?_) | refine GK_split (fun h_ => ?_) (fun h_ => ?_) | refine ite_both (fun h_ => ?_) (fun h_ => ?_)) <;> (try simp only [decide_eq_true_eq, decide_eq_false_iff_not, Bool.not_true, Bool.not_false, Bool.not_eq_true', Bool.not_eq_false', Bool.not_eq_eq_eq_not, Decidable.not_not] at h_) <;> (try simp only [r40_0, r40_1, r40_2, r40_3, r40_4, r40_5, r40_6, r40_7, r40_8, r40_9, r40_10, r40_11, c40, F40, l40_0, q7, q9, q0, q4, q5, gp, w1, g, w2, b1, rd_of b1, b2, rd_of b2, vp, h_, go_sem, Int.reduceTMod, Int.reduceTDiv, Int.reduceDiv, Int.reduceMod, Int.reduceAdd, Int.reduceSub, Int.reduceMul, Int.reduceNeg, Int.reducePow, Int.reduceEq, ↓reduceIte, Nat.reduceEqDiff, Nat.reduceAdd, Nat.reduceMul, Nat.reduceLeDiff, Nat.reduceSub, Nat.reduceLT, Int.reduceToNat, Int.reduceLT, Int.reduceLE, reduceCtorEq]))
      refine RK_callw ?_
      have hA' : ∀ j, (A j ∨ j = n ∨ j = n + 1) → j < N := fun j ha => by rcases ha with ha | ha | ha <;> first | omega | (have := hA j ha; omega)
      have hAp' : ¬ (A pid ∨ pid = n ∨ pid = n + 1) := fun ha => by rcases ha with ha | ha | ha <;> first | omega | exact hAp ha
      have hrM : RIn M N (.one pc) pat := hr.keep' (by omega) (fun id hid => by rw [hfr id (by have := hb id hid; omega) (Or.inl (hb id hid))]; exact hf0 id (by have := hb id hid; omega))
      obtain ⟨x, x0, x1, x2, x3⟩ := hP.at k1
      have hle := hI.le
      have hpl := hP.le
      have hk1 := hI.k1
      have hk0 := hI.k0
      have hnx := fun hlen => hI.next hP pp hC.1 hlen
      rw [x1] at hgo hnx
      refine (w_next (p := pp) ⟨oc, gp, gpn, gO⟩ hA' hAp' hrM hb hI.k0 hI.k1 (by omega) hI.ne (by omega) (fun l hl => by have := hI.bd l hl; omega) x0).mono ?_
      rintro _ m2 n2 ⟨hn2, ⟨oc2, gp2, gpn2, gO2⟩, hf2⟩
      have hlen2 := gO2.len
      by_cases g2 : 4096 < (nextL k1 ((k1 + 1) % pat.length) ls1 pp).length
      · rw [if_pos g2] at hgo
        have g2' : (4096 < ((nextL k1 ((k1 + 1) % pat.length) ls1 pp).length : Int)) = True := eq_true (by omega)
        try simp only [r40_0, r40_1, r40_2, r40_3, r40_4, r40_5, r40_6, r40_7, r40_8, r40_9, r40_10, r40_11, c40, F40, q0, gp2, hlen2, g2', go_sem, Int.reduceTMod, Int.reduceTDiv, Int.reduceDiv, Int.reduceMod, Int.reduceAdd, Int.reduceSub, Int.reduceMul, Int.reduceNeg, Int.reducePow, Int.reduceEq, ↓reduceIte, Nat.reduceEqDiff, Nat.reduceAdd, Nat.reduceMul, Nat.reduceLeDiff, Nat.reduceSub, Nat.reduceLT, Int.reduceToNat, Int.reduceLT, Int.reduceLE, reduceCtorEq]
        repeat' ((first | refine FK_split (fun h_ => ?_) (fun h_ => ?_) | refine GK_split (fun h_ => ?_) (fun h_ => ?_) | refine ite_both (fun h_ => ?_) (fun h_ => ?_)) <;> (try simp only [decide_eq_true_eq, decide_eq_false_iff_not, Bool.not_true, Bool.not_false, Bool.not_eq_true', Bool.not_eq_false', Bool.not_eq_eq_eq_not, Decidable.not_not] at h_) <;> (try simp only [r40_0, r40_1, r40_2, r40_3, r40_4, r40_5, r40_6, r40_7, r40_8, r40_9, r40_10, r40_11, c40, F40, q0, gp2, hlen2, g2', h_, go_sem, Int.reduceTMod, Int.reduceTDiv, Int.reduceDiv, Int.reduceMod, Int.reduceAdd, Int.reduceSub, Int.reduceMul, Int.reduceNeg, Int.reducePow, Int.reduceEq, ↓reduceIte, Nat.reduceEqDiff, Nat.reduceAdd, Nat.reduceMul, Nat.reduceLeDiff, Nat.reduceSub, Nat.reduceLT, Int.reduceToNat, Int.reduceLT, Int.reduceLE, reduceCtorEq]))
        refine ⟨by omega, fun id q1 q2 => ?_, fun _ => rfl, fun k' left' ls' hh => ?_⟩
        · rw [hf2 id (by omega) (q2.elim Or.inl (fun ha => Or.inr (Or.inl ha))), hfr id (by omega) (q2.elim Or.inl (fun ha => Or.inr (Or.inl ha)))]
          exact hf0 id q1
        · rw [← hgo] at hh
          cases hh
      · rw [if_neg g2] at hgo
        have g2' : (4096 < ((nextL k1 ((k1 + 1) % pat.length) ls1 pp).length : Int)) = False := eq_false (by omega)
        have hm1 : meas NN (t + left1) x < meas NN t left1 := by
          unfold meas
          split <;> split <;> omega
        try simp only [r40_0, r40_1, r40_2, r40_3, r40_4, r40_5, r40_6, r40_7, r40_8, r40_9, r40_10, r40_11, c40, F40, q0, gp2, hlen2, g2', go_sem, Int.reduceTMod, Int.reduceTDiv, Int.reduceDiv, Int.reduceMod, Int.reduceAdd, Int.reduceSub, Int.reduceMul, Int.reduceNeg, Int.reducePow, Int.reduceEq, ↓reduceIte, Nat.reduceEqDiff, Nat.reduceAdd, Nat.reduceMul, Nat.reduceLeDiff, Nat.reduceSub, Nat.reduceLT, Int.reduceToNat, Int.reduceLT, Int.reduceLE, reduceCtorEq]
        repeat' ((first | refine FK_split (fun h_ => ?_) (fun h_ => ?_) | refine GK_split (fun h_ => ?_) (fun h_ => ?_) | refine ite_both (fun h_ => ?_) (fun h_ => ?_)) <;> (try simp only [decide_eq_true_eq, decide_eq_false_iff_not, Bool.not_true, Bool.not_false, Bool.not_eq_true', Bool.not_eq_false', Bool.not_eq_eq_eq_not, Decidable.not_not] at h_) <;> (try simp only [r40_0, r40_1, r40_2, r40_3, r40_4, r40_5, r40_6, r40_7, r40_8, r40_9, r40_10, r40_11, c40, F40, q0, gp2, hlen2, g2', h_, go_sem, Int.reduceTMod, Int.reduceTDiv, Int.reduceDiv, Int.reduceMod, Int.reduceAdd, Int.reduceSub, Int.reduceMul, Int.reduceNeg, Int.reducePow, Int.reduceEq, ↓reduceIte, Nat.reduceEqDiff, Nat.reduceAdd, Nat.reduceMul, Nat.reduceLeDiff, Nat.reduceSub, Nat.reduceLT, Int.reduceToNat, Int.reduceLT, Int.reduceLE, reduceCtorEq]))
        refine next (meas NN (t + left1) x) _ (by omega) ⟨f', t + left1, _, x, _, hgo, rfl, by omega, by omega, hnx g2, ?_, ?_, ?_, ?_, ?_, ?_, ⟨oc2, gp2, gpn2, gO2⟩, fun id q1 q2 => ?_⟩
        · simp only [q7, go_sem, Int.reduceTMod, Int.reduceTDiv, Int.reduceDiv, Int.reduceMod, Int.reduceAdd, Int.reduceSub, Int.reduceMul, Int.reduceNeg, Int.reducePow, Int.reduceEq, ↓reduceIte, Nat.reduceEqDiff, Nat.reduceAdd, Nat.reduceMul, Nat.reduceLeDiff, Nat.reduceSub, Nat.reduceLT, Int.reduceToNat, Int.reduceLT, Int.reduceLE, reduceCtorEq]
        · simp only [go_sem, Int.reduceTMod, Int.reduceTDiv, Int.reduceDiv, Int.reduceMod, Int.reduceAdd, Int.reduceSub, Int.reduceMul, Int.reduceNeg, Int.reducePow, Int.reduceEq, ↓reduceIte, Nat.reduceEqDiff, Nat.reduceAdd, Nat.reduceMul, Nat.reduceLeDiff, Nat.reduceSub, Nat.reduceLT, Int.reduceToNat, Int.reduceLT, Int.reduceLE, reduceCtorEq]
        · simp only [q0, go_sem, Int.reduceTMod, Int.reduceTDiv, Int.reduceDiv, Int.reduceMod, Int.reduceAdd, Int.reduceSub, Int.reduceMul, Int.reduceNeg, Int.reducePow, Int.reduceEq, ↓reduceIte, Nat.reduceEqDiff, Nat.reduceAdd, Nat.reduceMul, Nat.reduceLeDiff, Nat.reduceSub, Nat.reduceLT, Int.reduceToNat, Int.reduceLT, Int.reduceLE, reduceCtorEq]
        · simp only [q4, go_sem, Int.reduceTMod, Int.reduceTDiv, Int.reduceDiv, Int.reduceMod, Int.reduceAdd, Int.reduceSub, Int.reduceMul, Int.reduceNeg, Int.reducePow, Int.reduceEq, ↓reduceIte, Nat.reduceEqDiff, Nat.reduceAdd, Nat.reduceMul, Nat.reduceLeDiff, Nat.reduceSub, Nat.reduceLT, Int.reduceToNat, Int.reduceLT, Int.reduceLE, reduceCtorEq]
        · simp only [q5, go_sem, Int.reduceTMod, Int.reduceTDiv, Int.reduceDiv, Int.reduceMod, Int.reduceAdd, Int.reduceSub, Int.reduceMul, Int.reduceNeg, Int.reducePow, Int.reduceEq, ↓reduceIte, Nat.reduceEqDiff, Nat.reduceAdd, Nat.reduceMul, Nat.reduceLeDiff, Nat.reduceSub, Nat.reduceLT, Int.reduceToNat, Int.reduceLT, Int.reduceLE, reduceCtorEq]
        · simp only [go_sem, Int.reduceTMod, Int.reduceTDiv, Int.reduceDiv, Int.reduceMod, Int.reduceAdd, Int.reduceSub, Int.reduceMul, Int.reduceNeg, Int.reducePow, Int.reduceEq, ↓reduceIte, Nat.reduceEqDiff, Nat.reduceAdd, Nat.reduceMul, Nat.reduceLeDiff, Nat.reduceSub, Nat.reduceLT, Int.reduceToNat, Int.reduceLT, Int.reduceLE, reduceCtorEq]
          omega
        · simp only
          rw [hf2 id (by omega) q2]
          exact hfr id q1 q2
    · rw [if_neg g] at hgo
      subst hgo
      have w2 : IntKind.i64.wrap (left1 - (NN - t)) = left1 - (NN - t) := wr_eq (by omega) (by omega)
      have b2 : M (n + 1) = some ⟨[I b.x, I b.y], true⟩ := by rw [hfr (n + 1) (by omega) (by omega), hM0, upd_same]
      have hk0 := hI.k0
      have vd := v_drawn (pid := pid) (m := frz (upd M pid (some ⟨[pc, I ph, I k1, I (left1 - (NN - t)), oc], true⟩))) (n := N) (pc := pc) (oc := oc) (ph := ph) (k := k1) (left := left1 - (NN - t)) (o := false) (by rw [frz_at, upd_same]; rfl) hk0
      have hIe := hI.point b (left' := left1 - (NN - t)) (by omega) (by omega)
      have z1 : (n + 1 = pid) = False := eq_false (by omega)
      have hfin : ∀ id, id < n → (id < pid ∨ A id) → M id = m id := fun id q1 q2 => by
        rw [hfr id (by omega) (q2.elim Or.inl (fun ha => Or.inr (Or.inl ha)))]
        exact hf0 id q1
      have hDe : DPen (fun j => A j ∨ j = n ∨ j = n + 1) pid (upd M pid (some ⟨[pc, I ph, I k1, I (left1 - (NN - t)), oc], true⟩)) N pc ph k1 (left1 - (NN - t)) ls1 :=
        ⟨oc, upd_same _ _ _, gpn, gO.keep (Nat.le_refl _) (fun j q1 q2 q3 => upd_ne _ _ (by omega)) (fun j _ ha => ha)⟩
      cases hd : decide (k1 % 2 = 0)
      · rw [hd] at vd
        have hk2 : ¬ (k1 % 2 = 0) := of_decide_eq_false hd
        rw [if_neg hk2] at hIe
        try simp only [r40_0, r40_1, r40_2, r40_3, r40_4, r40_5, r40_6, r40_7, r40_8, r40_9, r40_10, r40_11, c40, F40, l40_0, q7, q9, q0, gp, w1, g, w2, vd, go_sem, Int.reduceTMod, Int.reduceTDiv, Int.reduceDiv, Int.reduceMod, Int.reduceAdd, Int.reduceSub, Int.reduceMul, Int.reduceNeg, Int.reducePow, Int.reduceEq, ↓reduceIte, Nat.reduceEqDiff, Nat.reduceAdd, Nat.reduceMul, Nat.reduceLeDiff, Nat.reduceSub, Nat.reduceLT, Int.reduceToNat, Int.reduceLT, Int.reduceLE, reduceCtorEq]
        repeat' ((first | refine FK_split (fun h_ => ?_) (fun h_ => ?_) | refine GK_split (fun h_ => ?_) (fun h_ => ?_) | refine ite_both (fun h_ => ?_) (fun h_ => ?_)) <;> (try simp only [decide_eq_true_eq, decide_eq_false_iff_not, Bool.not_true, Bool.not_false, Bool.not_eq_true', Bool.not_eq_false', Bool.not_eq_eq_eq_not, Decidable.not_not] at h_) <;> (try simp only [r40_0, r40_1, r40_2, r40_3, r40_4, r40_5, r40_6, r40_7, r40_8, r40_9, r40_10, r40_11, c40, F40, l40_0, q7, q9, q0, gp, w1, g, w2, vd, h_, go_sem, Int.reduceTMod, Int.reduceTDiv, Int.reduceDiv, Int.reduceMod, Int.reduceAdd, Int.reduceSub, Int.reduceMul, Int.reduceNeg, Int.reducePow, Int.reduceEq, ↓reduceIte, Nat.reduceEqDiff, Nat.reduceAdd, Nat.reduceMul, Nat.reduceLeDiff, Nat.reduceSub, Nat.reduceLT, Int.reduceToNat, Int.reduceLT, Int.reduceLE, reduceCtorEq]))
        refine ⟨by omega, fun id q1 q2 => ?_, fun hh => (by cases hh), fun k' left' ls' hh => ⟨rfl, ?_⟩⟩
        · have hne : ¬ id = pid := fun e => q2.elim (fun h => by omega) (fun h => hAp (e ▸ h))
          first | rw [if_neg hne] | rw [upd_ne _ _ hne]
          exact hfin id q1 q2
        · simp only [lineE, Option.some.injEq, Prod.mk.injEq, if_neg hk2] at hh
          obtain ⟨rfl, rfl, rfl⟩ := hh
          exact ⟨hDe.keep (Nat.le_refl _) rfl (fun _ _ _ _ => rfl) (fun j _ ha => Or.inl ha), hIe⟩
      · rw [hd] at vd
        have hk2 : k1 % 2 = 0 := of_decide_eq_true hd
        rw [if_pos hk2] at hIe
        try simp only [r40_0, r40_1, r40_2, r40_3, r40_4, r40_5, r40_6, r40_7, r40_8, r40_9, r40_10, r40_11, c40, F40, l40_0, q7, q9, q0, q5, gp, w1, g, w2, vd, z1, b2, rd_of b2, go_sem, Int.reduceTMod, Int.reduceTDiv, Int.reduceDiv, Int.reduceMod, Int.reduceAdd, Int.reduceSub, Int.reduceMul, Int.reduceNeg, Int.reducePow, Int.reduceEq, ↓reduceIte, Nat.reduceEqDiff, Nat.reduceAdd, Nat.reduceMul, Nat.reduceLeDiff, Nat.reduceSub, Nat.reduceLT, Int.reduceToNat, Int.reduceLT, Int.reduceLE, reduceCtorEq]
        repeat' ((first | refine FK_split (fun h_ => ?_) (fun h_ => ?_) | refine GK_split (fun h_ => ?_) (fun h_ => ?_) | refine ite_both (fun h_ => ?_) (fun h_ => ?_)) <;> (try simp only [decide_eq_true_eq, decide_eq_false_iff_not, Bool.not_true, Bool.not_false, Bool.not_eq_true', Bool.not_eq_false', Bool.not_eq_eq_eq_not, Decidable.not_not] at h_) <;> (try simp only [r40_0, r40_1, r40_2, r40_3, r40_4, r40_5, r40_6, r40_7, r40_8, r40_9, r40_10, r40_11, c40, F40, l40_0, q7, q9, q0, q5, gp, w1, g, w2, vd, z1, b2, rd_of b2, h_, go_sem, Int.reduceTMod, Int.reduceTDiv, Int.reduceDiv, Int.reduceMod, Int.reduceAdd, Int.reduceSub, Int.reduceMul, Int.reduceNeg, Int.reducePow, Int.reduceEq, ↓reduceIte, Nat.reduceEqDiff, Nat.reduceAdd, Nat.reduceMul, Nat.reduceLeDiff, Nat.reduceSub, Nat.reduceLT, Int.reduceToNat, Int.reduceLT, Int.reduceLE, reduceCtorEq]))
        refine RK_callw ?_
        obtain ⟨a1, y, rfl⟩ : ∃ a y, ls1 = a ++ [y] := ⟨ls1.dropLast, ls1.getLast (hI.ne hk2), (List.dropLast_concat_getLast (hI.ne hk2)).symm⟩
        rw [addL_snoc] at hIe
        have hle := hI.le
        have hla : (a1 ++ [y]).length = a1.length + 1 := by simp
        refine (w_point (p := b) hDe (fun j ha => by rcases ha with ha | ha | ha <;> first | omega | (have := hA j ha; omega)) (by omega) (by have := hI.bd y (by simp); omega)).mono ?_
        rintro _ m2 n2 ⟨hn2, hD2, hf2⟩
        try simp only [r40_0, r40_1, r40_2, r40_3, r40_4, r40_5, r40_6, r40_7, r40_8, r40_9, r40_10, r40_11, c40, F40, go_sem, Int.reduceTMod, Int.reduceTDiv, Int.reduceDiv, Int.reduceMod, Int.reduceAdd, Int.reduceSub, Int.reduceMul, Int.reduceNeg, Int.reducePow, Int.reduceEq, ↓reduceIte, Nat.reduceEqDiff, Nat.reduceAdd, Nat.reduceMul, Nat.reduceLeDiff, Nat.reduceSub, Nat.reduceLT, Int.reduceToNat, Int.reduceLT, Int.reduceLE, reduceCtorEq]
        repeat' ((first | refine FK_split (fun h_ => ?_) (fun h_ => ?_) | refine GK_split (fun h_ => ?_) (fun h_ => ?_) | refine ite_both (fun h_ => ?_) (fun h_ => ?_)) <;> (try simp only [decide_eq_true_eq, decide_eq_false_iff_not, Bool.not_true, Bool.not_false, Bool.not_eq_true', Bool.not_eq_false', Bool.not_eq_eq_eq_not, Decidable.not_not] at h_) <;> (try simp only [r40_0, r40_1, r40_2, r40_3, r40_4, r40_5, r40_6, r40_7, r40_8, r40_9, r40_10, r40_11, c40, F40, h_, go_sem, Int.reduceTMod, Int.reduceTDiv, Int.reduceDiv, Int.reduceMod, Int.reduceAdd, Int.reduceSub, Int.reduceMul, Int.reduceNeg, Int.reducePow, Int.reduceEq, ↓reduceIte, Nat.reduceEqDiff, Nat.reduceAdd, Nat.reduceMul, Nat.reduceLeDiff, Nat.reduceSub, Nat.reduceLT, Int.reduceToNat, Int.reduceLT, Int.reduceLE, reduceCtorEq]))
        refine ⟨by omega, fun id q1 q2 => ?_, fun hh => (by cases hh), fun k' left' ls' hh => ⟨rfl, ?_⟩⟩
        · have hne : ¬ id = pid := fun e => q2.elim (fun h => by omega) (fun h => hAp (e ▸ h))
          rw [hf2 id (by omega) (q2.elim Or.inl (fun ha => Or.inr (Or.inl ha))), upd_ne _ _ hne]
          exact hfin id q1 q2
        · simp only [lineE, Option.some.injEq, Prod.mk.injEq, if_pos hk2, addL_snoc] at hh
          obtain ⟨rfl, rfl, rfl⟩ := hh
          exact ⟨hD2.keep (Nat.le_refl _) rfl (fun _ _ _ _ => rfl) (fun j _ ha => Or.inl ha), hIe⟩
  · unfold meas
    split <;> omega
  · simp only [go_sem, Int.reduceTMod, Int.reduceTDiv, Int.reduceDiv, Int.reduceMod, Int.reduceAdd, Int.reduceSub, Int.reduceMul, Int.reduceNeg, Int.reducePow, Int.reduceEq, ↓reduceIte, Nat.reduceEqDiff, Nat.reduceAdd, Nat.reduceMul, Nat.reduceLeDiff, Nat.reduceSub, Nat.reduceLT, Int.reduceToNat, Int.reduceLT, Int.reduceLE, reduceCtorEq]
  · simp only [go_sem, Int.reduceTMod, Int.reduceTDiv, Int.reduceDiv, Int.reduceMod, Int.reduceAdd, Int.reduceSub, Int.reduceMul, Int.reduceNeg, Int.reducePow, Int.reduceEq, ↓reduceIte, Nat.reduceEqDiff, Nat.reduceAdd, Nat.reduceMul, Nat.reduceLeDiff, Nat.reduceSub, Nat.reduceLT, Int.reduceToNat, Int.reduceLT, Int.reduceLE, reduceCtorEq]
  · simp only [go_sem, Int.reduceTMod, Int.reduceTDiv, Int.reduceDiv, Int.reduceMod, Int.reduceAdd, Int.reduceSub, Int.reduceMul, Int.reduceNeg, Int.reducePow, Int.reduceEq, ↓reduceIte, Nat.reduceEqDiff, Nat.reduceAdd, Nat.reduceMul, Nat.reduceLeDiff, Nat.reduceSub, Nat.reduceLT, Int.reduceToNat, Int.reduceLT, Int.reduceLE, reduceCtorEq]
  · simp only [go_sem, Int.reduceTMod, Int.reduceTDiv, Int.reduceDiv, Int.reduceMod, Int.reduceAdd, Int.reduceSub, Int.reduceMul, Int.reduceNeg, Int.reducePow, Int.reduceEq, ↓reduceIte, Nat.reduceEqDiff, Nat.reduceAdd, Nat.reduceMul, Nat.reduceLeDiff, Nat.reduceSub, Nat.reduceLT, Int.reduceToNat, Int.reduceLT, Int.reduceLE, reduceCtorEq]
  · simp only [go_sem, Int.reduceTMod, Int.reduceTDiv, Int.reduceDiv, Int.reduceMod, Int.reduceAdd, Int.reduceSub, Int.reduceMul, Int.reduceNeg, Int.reducePow, Int.reduceEq, ↓reduceIte, Nat.reduceEqDiff, Nat.reduceAdd, Nat.reduceMul, Nat.reduceLeDiff, Nat.reduceSub, Nat.reduceLT, Int.reduceToNat, Int.reduceLT, Int.reduceLE, reduceCtorEq]

/- A pen's beginning: the pattern's phase. Conditions: those that each theorem names. -/
open Go Go.Proofs
set_option linter.unusedSimpArgs false
set_option linter.unusedVariables false

/-- Which length a phase lies in, and how much is left of it. -/
def phGo (pat : List Int) : Nat → Int → Int → Int × Int
  | 0, _, k => (k, 0)
  | f + 1, t, k => if t < pat.getD k.toNat 0 then (k, pat.getD k.toNat 0 - t) else phGo pat f (t - pat.getD k.toNat 0) ((k + 1) % pat.length)
def phS (pat : List Int) (ph : Int) : Int × Int := phGo pat (ph.toNat + 1) ph 0
theorem PatI.get {pat : List Int} (h : PatI pat) {k : Int} (h0 : 0 ≤ k) (h1 : k < pat.length) : ∃ x, pat[k.toNat]? = some x ∧ pat.getD k.toNat 0 = x ∧ 1 ≤ x ∧ x ≤ 1048576 := by
  have hlt : k.toNat < pat.length := by omega
  exact ⟨pat[k.toNat], List.getElem?_eq_getElem hlt, by simp [List.getD, List.getElem?_eq_getElem hlt], h.bd _ (List.getElem_mem hlt)⟩
theorem PatI.mod {pat : List Int} (h : PatI pat) (k : Int) : 0 ≤ (k + 1) % (pat.length : Int) ∧ (k + 1) % (pat.length : Int) < pat.length := by
  have h1 := h.po
  exact ⟨Int.emod_nonneg _ (by omega), Int.emod_lt_of_pos _ (by omega)⟩
theorem phGo_bd {pat : List Int} (h : PatI pat) : ∀ (f : Nat) (t k : Int), 0 ≤ t → 0 ≤ k → k < pat.length → t.toNat < f → (0 ≤ (phGo pat f t k).1 ∧ (phGo pat f t k).1 < pat.length) ∧ 1 ≤ (phGo pat f t k).2 ∧ (phGo pat f t k).2 ≤ 1048576
  | 0, _, _, _, _, _, h4 => by omega
  | f + 1, t, k, h1, h2, h3, h4 => by
    obtain ⟨x, x0, x1, x2, x3⟩ := h.get h2 h3
    rw [phGo, x1]
    split
    · exact ⟨⟨h2, h3⟩, by simp only; omega, by simp only; omega⟩
    · exact phGo_bd h f _ _ (by omega) (h.mod k).1 (h.mod k).2 (by omega)
theorem phS_bd {pat : List Int} (h : PatI pat) {ph : Int} (h0 : 0 ≤ ph) : (0 ≤ (phS pat ph).1 ∧ (phS pat ph).1 < pat.length) ∧ 1 ≤ (phS pat ph).2 ∧ (phS pat ph).2 ≤ 1048576 :=
  phGo_bd h _ _ _ h0 (Int.le_refl _) (by have := h.po; omega) (by omega)
theorem phase_loop {K : Kt} {pat : List Int} {ph : Int} {pc : Cell} {pid tb : Nat} {m0 : Mem} {n0 : Nat} {wr : Reg} (hP : PatI pat) (hph : 0 ≤ ph ∧ ph ≤ 8388608) (hr : RIn m0 n0 (.one pc) pat) (hb : ∀ id, sid (.one pc) = some id → id < pid) (htb : tb < pid) (hpn : pid < n0)
    (hbox : m0 tb = some ⟨[pc, I ph], true⟩) (hpen : m0 pid = some ⟨[pc, I ph, I 0, I (pat.getD 0 0), .sc (.slice none 0 0)], true⟩) {e : Nat → Reg} (e10 : e 10 = RI ph) (e9 : e 9 = .one (.ptr pid 0)) (e3 : e 3 = .one (.ptr tb 0)) (e7 : e 7 = wr)
    (hK : ∀ s, s.e 9 = .one (.ptr pid 0) → s.e 7 = wr → s.m pid = some ⟨[pc, I ph, I (phS pat ph).1, I (phS pat ph).2, .sc (.slice none 0 0)], true⟩ → (∀ id, id ≠ pid → s.m id = m0 id) → s.n = n0 → KX TA K 1 s) :
    XK TA (.loop l18_0) ⟨e, m0, n0⟩ K := by
  obtain ⟨R, hR⟩ : ∃ R, R = phS pat ph := ⟨_, rfl⟩
  rw [← hR] at hK
  have hpo := hP.po
  have hpl := hP.le
  refine XK_down (inv := fun d s => ∃ (rest k left : Int), d = rest.toNat ∧ 0 ≤ rest ∧ rest ≤ ph ∧ (0 ≤ k ∧ k < pat.length) ∧ ((left = pat.getD k.toNat 0 ∧ ∃ f, rest.toNat < f ∧ phGo pat f rest k = R) ∨ (rest = 0 ∧ (k, left) = R)) ∧
      s.e 10 = RI rest ∧ s.e 9 = .one (.ptr pid 0) ∧ s.e 3 = .one (.ptr tb 0) ∧ s.e 7 = wr ∧ s.m pid = some ⟨[pc, I ph, I k, I left, .sc (.slice none 0 0)], true⟩ ∧ (∀ id, id ≠ pid → s.m id = m0 id) ∧ s.n = n0)
    (fun L _ d s hs next => ?_) ph.toNat _ ⟨ph, 0, pat.getD 0 0, rfl, hph.1, Int.le_refl _, ⟨Int.le_refl _, by omega⟩, Or.inl ⟨rfl, ph.toNat + 1, by omega, hR.symm⟩, e10, e9, e3, e7, hpen, fun _ _ => rfl, rfl⟩
  obtain ⟨e, M, N⟩ := s
  obtain ⟨rest, k, left, hd, r0, r1, ⟨k0, k1⟩, hcase, q10, q9, q3, q7, qp, qm, qn⟩ := hs
  simp only at q10 q9 q3 q7 qp qm qn
  subst qn
  obtain ⟨x, x0, x1, x2, x3⟩ := hP.get k0 k1
  by_cases g : 0 < rest
  · obtain ⟨hl, f, hf, hgo⟩ := hcase.resolve_right (fun h => by omega)
    obtain ⟨f', rfl⟩ : ∃ f', f = f' + 1 := ⟨f - 1, by omega⟩
    rw [phGo, x1] at hgo
    rw [x1] at hl
    subst hl
    by_cases g2 : rest < left
    · rw [if_pos g2] at hgo
      have mn : mnI rest left = rest := by unfold mnI; rw [if_neg (by omega)]
      have w1 : IntKind.i64.wrap (rest - rest) = 0 := (wr_eq (by omega) (by omega)).trans (by omega)
      have w2 : IntKind.i64.wrap (left - rest) = left - rest := wr_eq (by omega) (by omega)
      have w3 : (left - rest = 0) = False := eq_false (by omega)
      try simp only [r18_0, r18_1, r18_2, r18_3, r18_4, r18_5, r18_6, r18_7, r18_8, r18_9, r18_10, r18_11, r18_12, r18_13, r18_14, r18_15, r18_16, r18_17, r18_18, r18_19, r18_20, r18_21, r18_22, r18_23, r18_25, r18_26, r18_24, r18_27, c18, F18, l18_0, l18_1, q10, q9, qp, g, minI_two, mn, w1, w2, w3, go_sem, Int.reduceTMod, Int.reduceTDiv, Int.reduceDiv, Int.reduceMod, Int.reduceAdd, Int.reduceSub, Int.reduceMul, Int.reduceNeg, Int.reducePow, Int.reduceEq, ↓reduceIte, Nat.reduceEqDiff, Nat.reduceAdd, Nat.reduceMul, Nat.reduceLeDiff, Nat.reduceSub, Nat.reduceLT, Int.reduceToNat, Int.reduceLT, Int.reduceLE, reduceCtorEq]
      repeat' ((first | refine FK_split (fun h_ => ?_) (fun h_ => ?_) | refine GK_split (fun h_ => ?_) (fun h_ => ?_) | refine ite_both (fun h_ => ?_) (fun h_ => ?_)) <;> (try simp only [decide_eq_true_eq, decide_eq_false_iff_not, Bool.not_true, Bool.not_false, Bool.not_eq_true', Bool.not_eq_false', Bool.not_eq_eq_eq_not, Decidable.not_not] at h_) <;> (try simp only [r18_0, r18_1, r18_2, r18_3, r18_4, r18_5, r18_6, r18_7, r18_8, r18_9, r18_10, r18_11, r18_12, r18_13, r18_14, r18_15, r18_16, r18_17, r18_18, r18_19, r18_20, r18_21, r18_22, r18_23, r18_25, r18_26, r18_24, r18_27, c18, F18, l18_0, l18_1, q10, q9, qp, g, minI_two, mn, w1, w2, w3, h_, go_sem, Int.reduceTMod, Int.reduceTDiv, Int.reduceDiv, Int.reduceMod, Int.reduceAdd, Int.reduceSub, Int.reduceMul, Int.reduceNeg, Int.reducePow, Int.reduceEq, ↓reduceIte, Nat.reduceEqDiff, Nat.reduceAdd, Nat.reduceMul, Nat.reduceLeDiff, Nat.reduceSub, Nat.reduceLT, Int.reduceToNat, Int.reduceLT, Int.reduceLE, reduceCtorEq]))
      refine next 0 _ (by omega) ⟨0, k, left - rest, by simp, Int.le_refl _, hph.1, ⟨k0, k1⟩, Or.inr ⟨rfl, hgo⟩, ?_, ?_, ?_, ?_, ?_, ?_, rfl⟩
      · simp only [go_sem, Int.reduceTMod, Int.reduceTDiv, Int.reduceDiv, Int.reduceMod, Int.reduceAdd, Int.reduceSub, Int.reduceMul, Int.reduceNeg, Int.reducePow, Int.reduceEq, ↓reduceIte, Nat.reduceEqDiff, Nat.reduceAdd, Nat.reduceMul, Nat.reduceLeDiff, Nat.reduceSub, Nat.reduceLT, Int.reduceToNat, Int.reduceLT, Int.reduceLE, reduceCtorEq]
      · simp only [q9, go_sem, Int.reduceTMod, Int.reduceTDiv, Int.reduceDiv, Int.reduceMod, Int.reduceAdd, Int.reduceSub, Int.reduceMul, Int.reduceNeg, Int.reducePow, Int.reduceEq, ↓reduceIte, Nat.reduceEqDiff, Nat.reduceAdd, Nat.reduceMul, Nat.reduceLeDiff, Nat.reduceSub, Nat.reduceLT, Int.reduceToNat, Int.reduceLT, Int.reduceLE, reduceCtorEq]
      · simp only [q3, go_sem, Int.reduceTMod, Int.reduceTDiv, Int.reduceDiv, Int.reduceMod, Int.reduceAdd, Int.reduceSub, Int.reduceMul, Int.reduceNeg, Int.reducePow, Int.reduceEq, ↓reduceIte, Nat.reduceEqDiff, Nat.reduceAdd, Nat.reduceMul, Nat.reduceLeDiff, Nat.reduceSub, Nat.reduceLT, Int.reduceToNat, Int.reduceLT, Int.reduceLE, reduceCtorEq]
      · simp only [q7, go_sem, Int.reduceTMod, Int.reduceTDiv, Int.reduceDiv, Int.reduceMod, Int.reduceAdd, Int.reduceSub, Int.reduceMul, Int.reduceNeg, Int.reducePow, Int.reduceEq, ↓reduceIte, Nat.reduceEqDiff, Nat.reduceAdd, Nat.reduceMul, Nat.reduceLeDiff, Nat.reduceSub, Nat.reduceLT, Int.reduceToNat, Int.reduceLT, Int.reduceLE, reduceCtorEq]
      · simp only [go_sem, Int.reduceTMod, Int.reduceTDiv, Int.reduceDiv, Int.reduceMod, Int.reduceAdd, Int.reduceSub, Int.reduceMul, Int.reduceNeg, Int.reducePow, Int.reduceEq, ↓reduceIte, Nat.reduceEqDiff, Nat.reduceAdd, Nat.reduceMul, Nat.reduceLeDiff, Nat.reduceSub, Nat.reduceLT, Int.reduceToNat, Int.reduceLT, Int.reduceLE, reduceCtorEq]
      · intro id hid
        simp only
        rw [upd_ne _ _ hid]
        exact qm id hid
    · rw [if_neg g2] at hgo
      have u0 : ∀ (r l ph : Int) (d f : Nat), d = r.toNat → 1 ≤ l → ¬ r < l → r ≤ ph → r.toNat < f + 1 → (r - l).toNat < d ∧ 0 ≤ r - l ∧ r - l ≤ ph ∧ (r - l).toNat < f := fun r l ph d f a1 a2 a3 a4 a5 => by omega
      obtain ⟨u1, u2, u3, u4⟩ := u0 rest left ph d f' hd x2 g2 r1 hf
      clear u0
      have mn : mnI rest left = left := by
        unfold mnI
        by_cases h : left < rest
        · rw [if_pos h]
        · rw [if_neg h]; exact Int.le_antisymm (Int.not_lt.1 h) (Int.not_lt.1 g2)
      obtain ⟨y, y0, y1, y2, y3⟩ := hP.get (hP.mod k).1 (hP.mod k).2
      have hm := hP.mod k
      have hrM : RIn M N (.one pc) pat := hr.keep' (Nat.le_refl _) (fun id hid => qm id (by have := hb id hid; omega))
      obtain ⟨id, off, cap, b, hpc, hid, hbb, hcc⟩ := RL.int hrM y0
      simp only [Reg.one.injEq] at hpc
      have hidp : id < pid := hb id (by rw [hpc]; rfl)
      have hbox' : M tb = some ⟨[pc, I ph], true⟩ := by rw [qm tb (by omega)]; exact hbox
      rw [hpc] at qp hbox'
      have w1 : IntKind.i64.wrap (rest - left) = rest - left := wr_eq (by omega) (by omega)
      have w2 : IntKind.i64.wrap (left - left) = 0 := (wr_eq (by omega) (by omega)).trans (by omega)
      have w4 : IntKind.i64.wrap (k + 1) = k + 1 := wr_eq (by omega) (by omega)
      have w5 : (k + 1).tmod (pat.length : Int) = (k + 1) % pat.length := Int.tmod_eq_emod_of_nonneg (by omega)
      have w6 : ((pat.length : Int) = 0) = False := eq_false (by omega)
      have z1 : (tb = pid) = False := eq_false (by omega)
      have z2 : (id = pid) = False := eq_false (by omega)
      have d1 : (0 ≤ (k + 1) % (pat.length : Int)) = True := eq_true hm.1
      have d2 : ((k + 1) % (pat.length : Int) < (pat.length : Int)) = True := eq_true hm.2
      try simp only [r18_0, r18_1, r18_2, r18_3, r18_4, r18_5, r18_6, r18_7, r18_8, r18_9, r18_10, r18_11, r18_12, r18_13, r18_14, r18_15, r18_16, r18_17, r18_18, r18_19, r18_20, r18_21, r18_22, r18_23, r18_25, r18_26, r18_24, r18_27, c18, F18, l18_0, l18_1, q10, q9, q3, qp, g, minI_two, mn, w1, w2, w4, w5, w6, z1, z2, d1, d2, hbox', hbb, hcc, lenO, Nat.mul_one, go_sem, Int.reduceTMod, Int.reduceTDiv, Int.reduceDiv, Int.reduceMod, Int.reduceAdd, Int.reduceSub, Int.reduceMul, Int.reduceNeg, Int.reducePow, Int.reduceEq, ↓reduceIte, Nat.reduceEqDiff, Nat.reduceAdd, Nat.reduceMul, Nat.reduceLeDiff, Nat.reduceSub, Nat.reduceLT, Int.reduceToNat, Int.reduceLT, Int.reduceLE, reduceCtorEq]
      repeat' ((first | refine FK_split (fun h_ => ?_) (fun h_ => ?_) | refine GK_split (fun h_ => ?_) (fun h_ => ?_) | refine ite_both (fun h_ => ?_) (fun h_ => ?_)) <;> (try simp only [decide_eq_true_eq, decide_eq_false_iff_not, Bool.not_true, Bool.not_false, Bool.not_eq_true', Bool.not_eq_false', Bool.not_eq_eq_eq_not, Decidable.not_not] at h_) <;> (try simp only [r18_0, r18_1, r18_2, r18_3, r18_4, r18_5, r18_6, r18_7, r18_8, r18_9, r18_10, r18_11, r18_12, r18_13, r18_14, r18_15, r18_16, r18_17, r18_18, r18_19, r18_20, r18_21, r18_22, r18_23, r18_25, r18_26, r18_24, r18_27, c18, F18, l18_0, l18_1, q10, q9, q3, qp, g, minI_two, mn, w1, w2, w4, w5, w6, z1, z2, d1, d2, hbox', hbb, hcc, lenO, Nat.mul_one, h_, go_sem, Int.reduceTMod, Int.reduceTDiv, Int.reduceDiv, Int.reduceMod, Int.reduceAdd, Int.reduceSub, Int.reduceMul, Int.reduceNeg, Int.reducePow, Int.reduceEq, ↓reduceIte, Nat.reduceEqDiff, Nat.reduceAdd, Nat.reduceMul, Nat.reduceLeDiff, Nat.reduceSub, Nat.reduceLT, Int.reduceToNat, Int.reduceLT, Int.reduceLE, reduceCtorEq]))
      refine next (rest - left).toNat _ u1 ⟨rest - left, (k + 1) % pat.length, y, rfl, u2, u3, hm, Or.inl ⟨y1.symm, f', u4, hgo⟩, ?_, ?_, ?_, ?_, ?_, ?_, rfl⟩
      · simp only [go_sem, Int.reduceTMod, Int.reduceTDiv, Int.reduceDiv, Int.reduceMod, Int.reduceAdd, Int.reduceSub, Int.reduceMul, Int.reduceNeg, Int.reducePow, Int.reduceEq, ↓reduceIte, Nat.reduceEqDiff, Nat.reduceAdd, Nat.reduceMul, Nat.reduceLeDiff, Nat.reduceSub, Nat.reduceLT, Int.reduceToNat, Int.reduceLT, Int.reduceLE, reduceCtorEq]
      · simp only [q9, go_sem, Int.reduceTMod, Int.reduceTDiv, Int.reduceDiv, Int.reduceMod, Int.reduceAdd, Int.reduceSub, Int.reduceMul, Int.reduceNeg, Int.reducePow, Int.reduceEq, ↓reduceIte, Nat.reduceEqDiff, Nat.reduceAdd, Nat.reduceMul, Nat.reduceLeDiff, Nat.reduceSub, Nat.reduceLT, Int.reduceToNat, Int.reduceLT, Int.reduceLE, reduceCtorEq]
      · simp only [q3, go_sem, Int.reduceTMod, Int.reduceTDiv, Int.reduceDiv, Int.reduceMod, Int.reduceAdd, Int.reduceSub, Int.reduceMul, Int.reduceNeg, Int.reducePow, Int.reduceEq, ↓reduceIte, Nat.reduceEqDiff, Nat.reduceAdd, Nat.reduceMul, Nat.reduceLeDiff, Nat.reduceSub, Nat.reduceLT, Int.reduceToNat, Int.reduceLT, Int.reduceLE, reduceCtorEq]
      · simp only [q7, go_sem, Int.reduceTMod, Int.reduceTDiv, Int.reduceDiv, Int.reduceMod, Int.reduceAdd, Int.reduceSub, Int.reduceMul, Int.reduceNeg, Int.reducePow, Int.reduceEq, ↓reduceIte, Nat.reduceEqDiff, Nat.reduceAdd, Nat.reduceMul, Nat.reduceLeDiff, Nat.reduceSub, Nat.reduceLT, Int.reduceToNat, Int.reduceLT, Int.reduceLE, reduceCtorEq]
      · simp only [hpc, go_sem, Int.reduceTMod, Int.reduceTDiv, Int.reduceDiv, Int.reduceMod, Int.reduceAdd, Int.reduceSub, Int.reduceMul, Int.reduceNeg, Int.reducePow, Int.reduceEq, ↓reduceIte, Nat.reduceEqDiff, Nat.reduceAdd, Nat.reduceMul, Nat.reduceLeDiff, Nat.reduceSub, Nat.reduceLT, Int.reduceToNat, Int.reduceLT, Int.reduceLE, reduceCtorEq]
      · intro id hid
        simp only
        rw [upd_ne _ _ hid, upd_ne _ _ hid, upd_ne _ _ hid]
        exact qm id hid
  · have hrest : rest = 0 := by omega
    subst hrest
    have hfin : (k, left) = R := by
      rcases hcase with ⟨hl, f, hf, hgo⟩ | ⟨_, h⟩
      · obtain ⟨f', rfl⟩ : ∃ f', f = f' + 1 := ⟨f - 1, by omega⟩
        rw [phGo, x1, if_pos (by omega)] at hgo
        rw [← hgo, hl, x1, Int.sub_zero]
      · exact h
    try simp only [r18_0, r18_1, r18_2, r18_3, r18_4, r18_5, r18_6, r18_7, r18_8, r18_9, r18_10, r18_11, r18_12, r18_13, r18_14, r18_15, r18_16, r18_17, r18_18, r18_19, r18_20, r18_21, r18_22, r18_23, r18_25, r18_26, r18_24, r18_27, c18, F18, l18_0, l18_1, q10, go_sem, Int.reduceTMod, Int.reduceTDiv, Int.reduceDiv, Int.reduceMod, Int.reduceAdd, Int.reduceSub, Int.reduceMul, Int.reduceNeg, Int.reducePow, Int.reduceEq, ↓reduceIte, Nat.reduceEqDiff, Nat.reduceAdd, Nat.reduceMul, Nat.reduceLeDiff, Nat.reduceSub, Nat.reduceLT, Int.reduceToNat, Int.reduceLT, Int.reduceLE, reduceCtorEq]
    repeat' ((first | refine FK_split (fun h_ => ?_) (fun h_ => ?_) | refine GK_split (fun h_ => ?_) (fun h_ => ?_) | refine ite_both (fun h_ => ?_) (fun h_ => ?_)) <;> (try simp only [decide_eq_true_eq, decide_eq_false_iff_not, Bool.not_true, Bool.not_false, Bool.not_eq_true', Bool.not_eq_false', Bool.not_eq_eq_eq_not, Decidable.not_not] at h_) <;> (try simp only [r18_0, r18_1, r18_2, r18_3, r18_4, r18_5, r18_6, r18_7, r18_8, r18_9, r18_10, r18_11, r18_12, r18_13, r18_14, r18_15, r18_16, r18_17, r18_18, r18_19, r18_20, r18_21, r18_22, r18_23, r18_25, r18_26, r18_24, r18_27, c18, F18, l18_0, l18_1, q10, h_, go_sem, Int.reduceTMod, Int.reduceTDiv, Int.reduceDiv, Int.reduceMod, Int.reduceAdd, Int.reduceSub, Int.reduceMul, Int.reduceNeg, Int.reducePow, Int.reduceEq, ↓reduceIte, Nat.reduceEqDiff, Nat.reduceAdd, Nat.reduceMul, Nat.reduceLeDiff, Nat.reduceSub, Nat.reduceLT, Int.reduceToNat, Int.reduceLT, Int.reduceLE, reduceCtorEq]))
    refine hK _ ?_ ?_ ?_ qm rfl
    · simp only [q9, go_sem, Int.reduceTMod, Int.reduceTDiv, Int.reduceDiv, Int.reduceMod, Int.reduceAdd, Int.reduceSub, Int.reduceMul, Int.reduceNeg, Int.reducePow, Int.reduceEq, ↓reduceIte, Nat.reduceEqDiff, Nat.reduceAdd, Nat.reduceMul, Nat.reduceLeDiff, Nat.reduceSub, Nat.reduceLT, Int.reduceToNat, Int.reduceLT, Int.reduceLE, reduceCtorEq]
    · simp only [q7, go_sem, Int.reduceTMod, Int.reduceTDiv, Int.reduceDiv, Int.reduceMod, Int.reduceAdd, Int.reduceSub, Int.reduceMul, Int.reduceNeg, Int.reducePow, Int.reduceEq, ↓reduceIte, Nat.reduceEqDiff, Nat.reduceAdd, Nat.reduceMul, Nat.reduceLeDiff, Nat.reduceSub, Nat.reduceLT, Int.reduceToNat, Int.reduceLT, Int.reduceLE, reduceCtorEq]
    · rw [← hfin]
      exact qp

/- A pen that goes along a way. Conditions: those that each theorem names. -/
open Go Go.Proofs
set_option linter.unusedSimpArgs false
set_option linter.unusedVariables false

/-- The pen behind the first lines of a way; none: there are too many pieces. -/
noncomputable def dashTo (pat : List Int) (way : List Pt) (st : Int × Int × List (List Pt)) : Nat → Option (Int × Int × List (List Pt))
  | 0 => some st
  | i + 1 => match dashTo pat way st i with
    | none => none
    | some (k, left, ls) => match way[i]?, way[i + 1]? with
      | some a, some b => lineS pat a b k left ls
      | _, _ => some (k, left, ls)
theorem dashTo_none {pat : List Int} {way : List Pt} {st : Int × Int × List (List Pt)} {i : Nat} (h : dashTo pat way st i = none) : ∀ j, i ≤ j → dashTo pat way st j = none := by
  intro j hj
  induction j with
  | zero => rwa [show i = 0 by omega] at h
  | succ j ih =>
    by_cases e : i = j + 1
    · subst e; exact h
    · rw [dashTo, ih (by omega)]
theorem lg_at {w : List Pt} (h : anyLg w w.length = false) {i : Nat} {p q : Pt} (hp : w[i]? = some p) (hq : w[i + 1]? = some q) : longB (q.x - p.x) (q.y - p.y) = false := by
  have hlt : i + 1 < w.length := (List.getElem?_eq_some_iff.1 hq).1
  have h1 : anyLg w (i + 1 + 1) = false := by
    cases hc : anyLg w (i + 1 + 1)
    · rfl
    · rw [anyLg_mono hc w.length (by omega)] at h; cases h
  rw [anyLg_succ (by omega) (show w[i + 1 - 1]? = some p by rw [Nat.add_sub_cancel]; exact hp) hq, Bool.or_eq_false_iff] at h1
  exact h1.2
abbrev noA : Nat → Prop := fun _ => False
set_option maxHeartbeats 2000000 in
theorem lines_loop {K : Kt} {pat : List Int} {way : List Pt} {ph k left : Int} {ls : List (List Pt)} {pc : Cell} {pid : Nat} {m0 : Mem} {n0 : Nat} {wr : Reg} (hP : PatI pat) (hr : RIn m0 n0 (.one pc) pat) (hb : ∀ id, sid (.one pc) = some id → id < pid)
    (hw : RPt m0 n0 wr way) (hwb : ∀ id, sid wr = some id → id < pid) (hwi : way.all inP = true) (hwl : anyLg way way.length = false) (hw0 : 0 < way.length) (hwm : way.length ≤ 1000000) (hD : DPen noA pid m0 n0 pc ph k left ls) (hI : LineI pat 1 k left ls)
    {e : Nat → Reg} (e12 : e 12 = RI 1) (e9 : e 9 = .one (.ptr pid 0)) (e7 : e 7 = wr)
    (hret : dashTo pat way (k, left, ls) (way.length - 1) = none → ∀ s, s.e 4 = rnil → s.e 5 = RI 36 → KR TA K s)
    (hK : ∀ k' left' ls' s, dashTo pat way (k, left, ls) (way.length - 1) = some (k', left', ls') → s.e 9 = .one (.ptr pid 0) → DPen noA pid s.m s.n pc ph k' left' ls' → LineI pat way.length k' left' ls' → KX TA K 3 s) :
    XK TA (.loop l18_1) ⟨e, m0, n0⟩ K := by
  have hlen := hw.len
  refine XK_iter (inv := fun i s => ∃ (k1 left1 : Int) (ls1 : List (List Pt)), dashTo pat way (k, left, ls) i = some (k1, left1, ls1) ∧ LineI pat (1 + i) k1 left1 ls1 ∧ s.e 12 = RI ((i + 1 : Nat) : Int) ∧ s.e 9 = .one (.ptr pid 0) ∧ s.e 7 = wr ∧ n0 ≤ s.n ∧ DPen noA pid s.m s.n pc ph k1 left1 ls1 ∧ (∀ id, id < pid → s.m id = m0 id)) (way.length - 1)
    (fun L _ => ⟨fun i hi s hs next => ?_, fun s hs => ?_⟩) 0 (by omega) _ ⟨k, left, ls, rfl, hI, e12, e9, e7, Nat.le_refl _, hD, fun _ _ => rfl⟩
  · obtain ⟨e, M, N⟩ := s
    obtain ⟨k1, left1, ls1, hd, hI1, q12, q9, q7, qn, qD, qm⟩ := hs
    simp only at q12 q9 q7 qn qD qm
    have hpn : pid < N := by obtain ⟨_, _, h2, _⟩ := qD; exact h2
    have hp : way[i]? = some (way[i]'(by omega)) := List.getElem?_eq_getElem (by omega)
    have hq : way[i + 1]? = some (way[i + 1]'(by omega)) := List.getElem?_eq_getElem (by omega)
    have hwM : RPt M N wr way := hw.keep' qn (fun id hid => qm id (hwb id hid))
    have hrM : RIn M N (.one pc) pat := hr.keep' qn (fun id hid => qm id (hb id hid))
    obtain ⟨id, off, cap, hr1, hid, hrd⟩ := hwM.at cs2 hp
    obtain ⟨id', off', cap', hr1', _, hrd'⟩ := hwM.at cs2 hq
    rw [hr1] at hr1'
    simp only [Reg.one.injEq, Cell.sl.injEq, true_and] at hr1'
    obtain ⟨rfl, rfl, rfl, _⟩ := hr1'
    have hpi : inP (way[i]'(by omega)) = true := List.all_eq_true.1 hwi _ (List.getElem_mem (by omega))
    have hqi : inP (way[i + 1]'(by omega)) = true := List.all_eq_true.1 hwi _ (List.getElem_mem (by omega))
    have hlg := lg_at hwl hp hq
    have hsn : dashTo pat way (k, left, ls) (i + 1) = lineS pat (way[i]'(by omega)) (way[i + 1]'(by omega)) k1 left1 ls1 := by rw [dashTo, hd, hp, hq]
    generalize (way[i]'(by omega)) = a at *
    generalize (way[i + 1]'(by omega)) = b at *
    have c1 : (((i + 1 : Nat) : Int) < (way.length : Int)) = True := eq_true (by omega)
    have c2 : IntKind.i64.wrap (((i + 1 : Nat) : Int) - 1) = (i : Int) := (wr_eq (by omega) (by omega)).trans (by omega)
    have c3 : (0 ≤ (i : Int)) = True := eq_true (by omega)
    have c4 : ((i : Int) < (way.length : Int)) = True := eq_true (by omega)
    have c5 : (0 ≤ ((i + 1 : Nat) : Int)) = True := eq_true (by omega)
    have c6 : IntKind.i64.wrap (((i + 1 : Nat) : Int) + 1) = ((i + 1 + 1 : Nat) : Int) := wr_nat (by omega)
    rw [hr1] at q7
    try simp only [r18_0, r18_1, r18_2, r18_3, r18_4, r18_5, r18_6, r18_7, r18_8, r18_9, r18_10, r18_11, r18_12, r18_13, r18_14, r18_15, r18_16, r18_17, r18_18, r18_19, r18_20, r18_21, r18_22, r18_23, r18_25, r18_26, r18_24, r18_27, c18, F18, l18_0, l18_1, q12, q9, q7, c1, c2, c3, c4, c5, hrd, hrd', lenO, Int.toNat_natCast, go_sem, Int.reduceTMod, Int.reduceTDiv, Int.reduceDiv, Int.reduceMod, Int.reduceAdd, Int.reduceSub, Int.reduceMul, Int.reduceNeg, Int.reducePow, Int.reduceEq, ↓reduceIte, Nat.reduceEqDiff, Nat.reduceAdd, Nat.reduceMul, Nat.reduceLeDiff, Nat.reduceSub, Nat.reduceLT, Int.reduceToNat, Int.reduceLT, Int.reduceLE, reduceCtorEq]
    repeat' ((first | refine FK_split (fun h_ => ?_) (fun h_ => ?_) | refine GK_split (fun h_ => ?_) (fun h_ => ?_) | refine ite_both (fun h_ => ?_) (fun h_ => ?_)) <;> (try simp only [decide_eq_true_eq, decide_eq_false_iff_not, Bool.not_true, Bool.not_false, Bool.not_eq_true', Bool.not_eq_false', Bool.not_eq_eq_eq_not, Decidable.not_not] at h_) <;> (try simp only [r18_0, r18_1, r18_2, r18_3, r18_4, r18_5, r18_6, r18_7, r18_8, r18_9, r18_10, r18_11, r18_12, r18_13, r18_14, r18_15, r18_16, r18_17, r18_18, r18_19, r18_20, r18_21, r18_22, r18_23, r18_25, r18_26, r18_24, r18_27, c18, F18, l18_0, l18_1, q12, q9, q7, c1, c2, c3, c4, c5, hrd, hrd', lenO, Int.toNat_natCast, h_, go_sem, Int.reduceTMod, Int.reduceTDiv, Int.reduceDiv, Int.reduceMod, Int.reduceAdd, Int.reduceSub, Int.reduceMul, Int.reduceNeg, Int.reducePow, Int.reduceEq, ↓reduceIte, Nat.reduceEqDiff, Nat.reduceAdd, Nat.reduceMul, Nat.reduceLeDiff, Nat.reduceSub, Nat.reduceLT, Int.reduceToNat, Int.reduceLT, Int.reduceLE, reduceCtorEq]))
    refine RK_callw ?_
    refine (w_line (a := a) (b := b) qD (fun j h => h.elim) (fun h => h) hrM hb hP hI1 (by omega) hpi hqi hlg).mono ?_
    rintro r2 m2 n2 ⟨hn2, hf2, hx1, hx2⟩
    rw [← hsn] at hx1 hx2
    cases hres : dashTo pat way (k, left, ls) (i + 1) with
    | none =>
      have hr2 := hx1 hres
      subst hr2
      try simp only [r18_0, r18_1, r18_2, r18_3, r18_4, r18_5, r18_6, r18_7, r18_8, r18_9, r18_10, r18_11, r18_12, r18_13, r18_14, r18_15, r18_16, r18_17, r18_18, r18_19, r18_20, r18_21, r18_22, r18_23, r18_25, r18_26, r18_24, r18_27, c18, F18, go_sem, Int.reduceTMod, Int.reduceTDiv, Int.reduceDiv, Int.reduceMod, Int.reduceAdd, Int.reduceSub, Int.reduceMul, Int.reduceNeg, Int.reducePow, Int.reduceEq, ↓reduceIte, Nat.reduceEqDiff, Nat.reduceAdd, Nat.reduceMul, Nat.reduceLeDiff, Nat.reduceSub, Nat.reduceLT, Int.reduceToNat, Int.reduceLT, Int.reduceLE, reduceCtorEq]
      repeat' ((first | refine FK_split (fun h_ => ?_) (fun h_ => ?_) | refine GK_split (fun h_ => ?_) (fun h_ => ?_) | refine ite_both (fun h_ => ?_) (fun h_ => ?_)) <;> (try simp only [decide_eq_true_eq, decide_eq_false_iff_not, Bool.not_true, Bool.not_false, Bool.not_eq_true', Bool.not_eq_false', Bool.not_eq_eq_eq_not, Decidable.not_not] at h_) <;> (try simp only [r18_0, r18_1, r18_2, r18_3, r18_4, r18_5, r18_6, r18_7, r18_8, r18_9, r18_10, r18_11, r18_12, r18_13, r18_14, r18_15, r18_16, r18_17, r18_18, r18_19, r18_20, r18_21, r18_22, r18_23, r18_25, r18_26, r18_24, r18_27, c18, F18, h_, go_sem, Int.reduceTMod, Int.reduceTDiv, Int.reduceDiv, Int.reduceMod, Int.reduceAdd, Int.reduceSub, Int.reduceMul, Int.reduceNeg, Int.reducePow, Int.reduceEq, ↓reduceIte, Nat.reduceEqDiff, Nat.reduceAdd, Nat.reduceMul, Nat.reduceLeDiff, Nat.reduceSub, Nat.reduceLT, Int.reduceToNat, Int.reduceLT, Int.reduceLE, reduceCtorEq]))
      refine hret (dashTo_none hres _ (by omega)) _ ?_ ?_
      · simp only [go_sem, Int.reduceTMod, Int.reduceTDiv, Int.reduceDiv, Int.reduceMod, Int.reduceAdd, Int.reduceSub, Int.reduceMul, Int.reduceNeg, Int.reducePow, Int.reduceEq, ↓reduceIte, Nat.reduceEqDiff, Nat.reduceAdd, Nat.reduceMul, Nat.reduceLeDiff, Nat.reduceSub, Nat.reduceLT, Int.reduceToNat, Int.reduceLT, Int.reduceLE, reduceCtorEq]
      · simp only [go_sem, Int.reduceTMod, Int.reduceTDiv, Int.reduceDiv, Int.reduceMod, Int.reduceAdd, Int.reduceSub, Int.reduceMul, Int.reduceNeg, Int.reducePow, Int.reduceEq, ↓reduceIte, Nat.reduceEqDiff, Nat.reduceAdd, Nat.reduceMul, Nat.reduceLeDiff, Nat.reduceSub, Nat.reduceLT, Int.reduceToNat, Int.reduceLT, Int.reduceLE, reduceCtorEq]
    | some st =>
      obtain ⟨k2, left2, ls2⟩ := st
      obtain ⟨rfl, hD2, hI2⟩ := hx2 k2 left2 ls2 hres
      try simp only [r18_0, r18_1, r18_2, r18_3, r18_4, r18_5, r18_6, r18_7, r18_8, r18_9, r18_10, r18_11, r18_12, r18_13, r18_14, r18_15, r18_16, r18_17, r18_18, r18_19, r18_20, r18_21, r18_22, r18_23, r18_25, r18_26, r18_24, r18_27, c18, F18, q12, c6, go_sem, Int.reduceTMod, Int.reduceTDiv, Int.reduceDiv, Int.reduceMod, Int.reduceAdd, Int.reduceSub, Int.reduceMul, Int.reduceNeg, Int.reducePow, Int.reduceEq, ↓reduceIte, Nat.reduceEqDiff, Nat.reduceAdd, Nat.reduceMul, Nat.reduceLeDiff, Nat.reduceSub, Nat.reduceLT, Int.reduceToNat, Int.reduceLT, Int.reduceLE, reduceCtorEq]
      repeat' ((first | refine FK_split (fun h_ => ?_) (fun h_ => ?_) | refine GK_split (fun h_ => ?_) (fun h_ => ?_) | refine ite_both (fun h_ => ?_) (fun h_ => ?_)) <;> (try simp only [decide_eq_true_eq, decide_eq_false_iff_not, Bool.not_true, Bool.not_false, Bool.not_eq_true', Bool.not_eq_false', Bool.not_eq_eq_eq_not, Decidable.not_not] at h_) <;> (try simp only [r18_0, r18_1, r18_2, r18_3, r18_4, r18_5, r18_6, r18_7, r18_8, r18_9, r18_10, r18_11, r18_12, r18_13, r18_14, r18_15, r18_16, r18_17, r18_18, r18_19, r18_20, r18_21, r18_22, r18_23, r18_25, r18_26, r18_24, r18_27, c18, F18, q12, c6, h_, go_sem, Int.reduceTMod, Int.reduceTDiv, Int.reduceDiv, Int.reduceMod, Int.reduceAdd, Int.reduceSub, Int.reduceMul, Int.reduceNeg, Int.reducePow, Int.reduceEq, ↓reduceIte, Nat.reduceEqDiff, Nat.reduceAdd, Nat.reduceMul, Nat.reduceLeDiff, Nat.reduceSub, Nat.reduceLT, Int.reduceToNat, Int.reduceLT, Int.reduceLE, reduceCtorEq]))
      refine next _ ⟨k2, left2, ls2, hres, ?_, ?_, ?_, ?_, ?_, hD2, fun id hid => ?_⟩
      · have e : (1 : Int) + ((i + 1 : Nat) : Int) = 1 + (i : Int) + 1 := by omega
        rw [e]
        exact hI2
      · simp only [go_sem, Int.reduceTMod, Int.reduceTDiv, Int.reduceDiv, Int.reduceMod, Int.reduceAdd, Int.reduceSub, Int.reduceMul, Int.reduceNeg, Int.reducePow, Int.reduceEq, ↓reduceIte, Nat.reduceEqDiff, Nat.reduceAdd, Nat.reduceMul, Nat.reduceLeDiff, Nat.reduceSub, Nat.reduceLT, Int.reduceToNat, Int.reduceLT, Int.reduceLE, reduceCtorEq]
      · simp only [q9, go_sem, Int.reduceTMod, Int.reduceTDiv, Int.reduceDiv, Int.reduceMod, Int.reduceAdd, Int.reduceSub, Int.reduceMul, Int.reduceNeg, Int.reducePow, Int.reduceEq, ↓reduceIte, Nat.reduceEqDiff, Nat.reduceAdd, Nat.reduceMul, Nat.reduceLeDiff, Nat.reduceSub, Nat.reduceLT, Int.reduceToNat, Int.reduceLT, Int.reduceLE, reduceCtorEq]
      · simp only [q7, hr1, go_sem, Int.reduceTMod, Int.reduceTDiv, Int.reduceDiv, Int.reduceMod, Int.reduceAdd, Int.reduceSub, Int.reduceMul, Int.reduceNeg, Int.reducePow, Int.reduceEq, ↓reduceIte, Nat.reduceEqDiff, Nat.reduceAdd, Nat.reduceMul, Nat.reduceLeDiff, Nat.reduceSub, Nat.reduceLT, Int.reduceToNat, Int.reduceLT, Int.reduceLE, reduceCtorEq]
      · simp only
        omega
      · simp only
        rw [hf2 id (by omega) (Or.inl hid)]
        exact qm id hid
  · obtain ⟨e, M, N⟩ := s
    obtain ⟨k1, left1, ls1, hd, hI1, q12, q9, q7, qn, qD, qm⟩ := hs
    simp only at q12 q9 q7 qn qD qm
    have c1 : (((way.length - 1 + 1 : Nat) : Int) < (way.length : Int)) = False := eq_false (by omega)
    try simp only [r18_0, r18_1, r18_2, r18_3, r18_4, r18_5, r18_6, r18_7, r18_8, r18_9, r18_10, r18_11, r18_12, r18_13, r18_14, r18_15, r18_16, r18_17, r18_18, r18_19, r18_20, r18_21, r18_22, r18_23, r18_25, r18_26, r18_24, r18_27, c18, F18, l18_0, l18_1, q12, q7, hlen, c1, go_sem, Int.reduceTMod, Int.reduceTDiv, Int.reduceDiv, Int.reduceMod, Int.reduceAdd, Int.reduceSub, Int.reduceMul, Int.reduceNeg, Int.reducePow, Int.reduceEq, ↓reduceIte, Nat.reduceEqDiff, Nat.reduceAdd, Nat.reduceMul, Nat.reduceLeDiff, Nat.reduceSub, Nat.reduceLT, Int.reduceToNat, Int.reduceLT, Int.reduceLE, reduceCtorEq]
    repeat' ((first | refine FK_split (fun h_ => ?_) (fun h_ => ?_) | refine GK_split (fun h_ => ?_) (fun h_ => ?_) | refine ite_both (fun h_ => ?_) (fun h_ => ?_)) <;> (try simp only [decide_eq_true_eq, decide_eq_false_iff_not, Bool.not_true, Bool.not_false, Bool.not_eq_true', Bool.not_eq_false', Bool.not_eq_eq_eq_not, Decidable.not_not] at h_) <;> (try simp only [r18_0, r18_1, r18_2, r18_3, r18_4, r18_5, r18_6, r18_7, r18_8, r18_9, r18_10, r18_11, r18_12, r18_13, r18_14, r18_15, r18_16, r18_17, r18_18, r18_19, r18_20, r18_21, r18_22, r18_23, r18_25, r18_26, r18_24, r18_27, c18, F18, l18_0, l18_1, q12, q7, hlen, c1, h_, go_sem, Int.reduceTMod, Int.reduceTDiv, Int.reduceDiv, Int.reduceMod, Int.reduceAdd, Int.reduceSub, Int.reduceMul, Int.reduceNeg, Int.reducePow, Int.reduceEq, ↓reduceIte, Nat.reduceEqDiff, Nat.reduceAdd, Nat.reduceMul, Nat.reduceLeDiff, Nat.reduceSub, Nat.reduceLT, Int.reduceToNat, Int.reduceLT, Int.reduceLE, reduceCtorEq]))
    refine hK _ _ _ _ hd ?_ qD ?_
    · simp only [q9, go_sem, Int.reduceTMod, Int.reduceTDiv, Int.reduceDiv, Int.reduceMod, Int.reduceAdd, Int.reduceSub, Int.reduceMul, Int.reduceNeg, Int.reducePow, Int.reduceEq, ↓reduceIte, Nat.reduceEqDiff, Nat.reduceAdd, Nat.reduceMul, Nat.reduceLeDiff, Nat.reduceSub, Nat.reduceLT, Int.reduceToNat, Int.reduceLT, Int.reduceLE, reduceCtorEq]
    · have e : (1 : Int) + ((way.length - 1 : Nat) : Int) = (way.length : Int) := by omega
      rw [e] at hI1
      exact hI1

/- The pieces of a subpath walked. Conditions: those that each theorem names. -/
open Go Go.Proofs
set_option linter.unusedSimpArgs false
set_option linter.unusedVariables false

/-- The pen where a way begins. -/
def pen0 (pat : List Int) (ph : Int) (way : List Pt) : Int × Int × List (List Pt) := ((phS pat ph).1, (phS pat ph).2, if (phS pat ph).1 % 2 = 0 then (way.take 1).map (fun p => [p]) else [])
noncomputable def dashL (pat : List Int) (ph : Int) (way : List Pt) : Option (List (List Pt)) := (dashTo pat way (pen0 pat ph way) (way.length - 1)).map (·.2.2)
structure DashQ (l way : List Pt) (c : Bool) (pat : List Int) (ph : Int) (n : Nat) (x : Reg) (k : Int) (m' : Mem) (n' : Nat) : Prop where
  bad : rightB pat ph = false ∨ l.all inP = false → x = rnil ∧ k = 30
  long : rightB pat ph = true → l.all inP = true → anyLg way way.length = true → x = rnil ∧ k = 10
  none : rightB pat ph = true → l.all inP = true → anyLg way way.length = false → way = [] → x = rnil ∧ k = 0
  whole : rightB pat ph = true → l.all inP = true → anyLg way way.length = false → way ≠ [] → pat = [] →
    k = 0 ∧ ∃ id cl, x = .one (.sl id 0 1 (some 1) 2) ∧ n ≤ id ∧ id < n' ∧ m' id = some ⟨[cl, .sc (.bool c)], true⟩ ∧ RPt m' n' (.one cl) l ∧ ∀ j, sid (.one cl) = some j → n ≤ j
  many : rightB pat ph = true → l.all inP = true → anyLg way way.length = false → way ≠ [] → pat ≠ [] → dashL pat ph way = .none → x = rnil ∧ k = 36
  some : rightB pat ph = true → l.all inP = true → anyLg way way.length = false → way ≠ [] → pat ≠ [] → ∀ ls, dashL pat ph way = .some ls → k = 0 ∧ ∃ oc pid, x = .one oc ∧ n ≤ pid ∧ OSb noA pid m' n' oc ls
theorem right_pat {pat : List Int} {ph : Int} (h : rightB pat ph = true) (hne : pat ≠ []) : PatI pat ∧ 0 ≤ ph ∧ ph ≤ 8388608 := by
  unfold rightB at h
  rw [if_neg hne] at h
  split at h
  · rename_i e2
    simp only [Bool.and_eq_true, decide_eq_true_eq] at h
    have hs := sum_bd pat h.1
    exact ⟨⟨by omega, by omega, by omega, fun x hx => okD_iff.1 (List.all_eq_true.1 h.1 x hx)⟩, h.2.1, by omega⟩
  · cases h
set_option maxHeartbeats 4000000 in
theorem w_Dash {c0 pc : Cell} {l : List Pt} {c : Bool} {pat : List Int} {ph : Int} {m : Mem} {n : Nat} (hr : RPt m n (.one c0) l) (hpr : RIn m n (.one pc) pat) (hl : l.length ≤ 900000) (hpl : pat.length < 4294967296) :
    Fn TA 18 [.agg [c0, .sc (.bool c)], .agg [pc, I ph]] m n (fun r' m' n' => ∃ x k, r' = .tup [x, RI k] ∧ DashQ l (wayL l c) c pat ph n x k m' n') := by
  refine Fn_ofK (fn := F18) rfl (by simp [F18]) ?_
  obtain ⟨M0, hM0⟩ : ∃ M0, M0 = upd (upd m n (some ⟨[c0, .sc (.bool c)], true⟩)) (n + 1) (some ⟨[pc, I ph], true⟩) := ⟨_, rfl⟩
  have hf0 : ∀ id, id < n → M0 id = m id := fun id hid => by rw [hM0, upd_ne _ _ (by omega), upd_ne _ _ (by omega)]
  have hb0 : M0 n = some ⟨[c0, .sc (.bool c)], true⟩ := by rw [hM0, upd_ne _ _ (by omega), upd_same]
  have hb1 : M0 (n + 1) = some ⟨[pc, I ph], true⟩ := by rw [hM0, upd_same]
  have hr0 : RPt M0 (n + 2) (.one c0) l := hr.keep (by omega) hf0
  have hp0 : RIn M0 (n + 2) (.one pc) pat := hpr.keep (by omega) hf0
  have vC := v_Check pc pat ph (frz M0) (n + 2) hp0.frz hpl
  cases hright : rightB pat ph
  · rw [hright] at vC
    rw [hM0] at vC
    try simp only [r18_0, r18_1, r18_2, r18_3, r18_4, r18_5, r18_6, r18_7, r18_8, r18_9, r18_10, r18_11, r18_12, r18_13, r18_14, r18_15, r18_16, r18_17, r18_18, r18_19, r18_20, r18_21, r18_22, r18_23, r18_25, r18_26, r18_24, r18_27, c18, F18, vC, go_sem, Int.reduceTMod, Int.reduceTDiv, Int.reduceDiv, Int.reduceMod, Int.reduceAdd, Int.reduceSub, Int.reduceMul, Int.reduceNeg, Int.reducePow, Int.reduceEq, ↓reduceIte, Nat.reduceEqDiff, Nat.reduceAdd, Nat.reduceMul, Nat.reduceLeDiff, Nat.reduceSub, Nat.reduceLT, Int.reduceToNat, Int.reduceLT, Int.reduceLE, reduceCtorEq]
    repeat' ((first | refine FK_split (fun h_ => ?_) (fun h_ => ?_) | refine GK_split (fun h_ => ?_) (fun h_ => ?_) | refine ite_both (fun h_ => ?_) (fun h_ => ?_)) <;> (try simp only [decide_eq_true_eq, decide_eq_false_iff_not, Bool.not_true, Bool.not_false, Bool.not_eq_true', Bool.not_eq_false', Bool.not_eq_eq_eq_not, Decidable.not_not] at h_) <;> (try simp only [r18_0, r18_1, r18_2, r18_3, r18_4, r18_5, r18_6, r18_7, r18_8, r18_9, r18_10, r18_11, r18_12, r18_13, r18_14, r18_15, r18_16, r18_17, r18_18, r18_19, r18_20, r18_21, r18_22, r18_23, r18_25, r18_26, r18_24, r18_27, c18, F18, vC, h_, go_sem, Int.reduceTMod, Int.reduceTDiv, Int.reduceDiv, Int.reduceMod, Int.reduceAdd, Int.reduceSub, Int.reduceMul, Int.reduceNeg, Int.reducePow, Int.reduceEq, ↓reduceIte, Nat.reduceEqDiff, Nat.reduceAdd, Nat.reduceMul, Nat.reduceLeDiff, Nat.reduceSub, Nat.reduceLT, Int.reduceToNat, Int.reduceLT, Int.reduceLE, reduceCtorEq]))
    exact ⟨rnil, 30, rfl, ⟨fun _ => ⟨rfl, rfl⟩, fun h => (by rw [hright] at h; cases h), fun h => (by rw [hright] at h; cases h), fun h => (by rw [hright] at h; cases h), fun h => (by rw [hright] at h; cases h), fun h => (by rw [hright] at h; cases h)⟩⟩
  · rw [hright] at vC
    rw [hM0] at vC
    try simp only [r18_0, r18_1, r18_2, r18_3, r18_4, r18_5, r18_6, r18_7, r18_8, r18_9, r18_10, r18_11, r18_12, r18_13, r18_14, r18_15, r18_16, r18_17, r18_18, r18_19, r18_20, r18_21, r18_22, r18_23, r18_25, r18_26, r18_24, r18_27, c18, F18, vC, go_sem, Int.reduceTMod, Int.reduceTDiv, Int.reduceDiv, Int.reduceMod, Int.reduceAdd, Int.reduceSub, Int.reduceMul, Int.reduceNeg, Int.reducePow, Int.reduceEq, ↓reduceIte, Nat.reduceEqDiff, Nat.reduceAdd, Nat.reduceMul, Nat.reduceLeDiff, Nat.reduceSub, Nat.reduceLT, Int.reduceToNat, Int.reduceLT, Int.reduceLE, reduceCtorEq]
    repeat' ((first | refine FK_split (fun h_ => ?_) (fun h_ => ?_) | refine GK_split (fun h_ => ?_) (fun h_ => ?_) | refine ite_both (fun h_ => ?_) (fun h_ => ?_)) <;> (try simp only [decide_eq_true_eq, decide_eq_false_iff_not, Bool.not_true, Bool.not_false, Bool.not_eq_true', Bool.not_eq_false', Bool.not_eq_eq_eq_not, Decidable.not_not] at h_) <;> (try simp only [r18_0, r18_1, r18_2, r18_3, r18_4, r18_5, r18_6, r18_7, r18_8, r18_9, r18_10, r18_11, r18_12, r18_13, r18_14, r18_15, r18_16, r18_17, r18_18, r18_19, r18_20, r18_21, r18_22, r18_23, r18_25, r18_26, r18_24, r18_27, c18, F18, vC, h_, go_sem, Int.reduceTMod, Int.reduceTDiv, Int.reduceDiv, Int.reduceMod, Int.reduceAdd, Int.reduceSub, Int.reduceMul, Int.reduceNeg, Int.reducePow, Int.reduceEq, ↓reduceIte, Nat.reduceEqDiff, Nat.reduceAdd, Nat.reduceMul, Nat.reduceLeDiff, Nat.reduceSub, Nat.reduceLT, Int.reduceToNat, Int.reduceLT, Int.reduceLE, reduceCtorEq]))
    rw [← hM0]
    refine RK_callk ?_
    refine (w_Way c0 l c _ _ hr0.frz (by omega)).mono ?_
    rintro r1 m1 n1 ⟨hn1, x, k, rfl, hq1, hq2, hq3⟩
    obtain ⟨M1, hM1⟩ : ∃ M1, M1 = unfrz M0 (n + 2) m1 := ⟨_, rfl⟩
    rw [← hM1, show max (n + 2) n1 = n1 by omega]
    cases hi : l.all inP
    · obtain ⟨rfl, rfl⟩ := hq1 hi
      try simp only [r18_0, r18_1, r18_2, r18_3, r18_4, r18_5, r18_6, r18_7, r18_8, r18_9, r18_10, r18_11, r18_12, r18_13, r18_14, r18_15, r18_16, r18_17, r18_18, r18_19, r18_20, r18_21, r18_22, r18_23, r18_25, r18_26, r18_24, r18_27, c18, F18, go_sem, Int.reduceTMod, Int.reduceTDiv, Int.reduceDiv, Int.reduceMod, Int.reduceAdd, Int.reduceSub, Int.reduceMul, Int.reduceNeg, Int.reducePow, Int.reduceEq, ↓reduceIte, Nat.reduceEqDiff, Nat.reduceAdd, Nat.reduceMul, Nat.reduceLeDiff, Nat.reduceSub, Nat.reduceLT, Int.reduceToNat, Int.reduceLT, Int.reduceLE, reduceCtorEq]
      repeat' ((first | refine FK_split (fun h_ => ?_) (fun h_ => ?_) | refine GK_split (fun h_ => ?_) (fun h_ => ?_) | refine ite_both (fun h_ => ?_) (fun h_ => ?_)) <;> (try simp only [decide_eq_true_eq, decide_eq_false_iff_not, Bool.not_true, Bool.not_false, Bool.not_eq_true', Bool.not_eq_false', Bool.not_eq_eq_eq_not, Decidable.not_not] at h_) <;> (try simp only [r18_0, r18_1, r18_2, r18_3, r18_4, r18_5, r18_6, r18_7, r18_8, r18_9, r18_10, r18_11, r18_12, r18_13, r18_14, r18_15, r18_16, r18_17, r18_18, r18_19, r18_20, r18_21, r18_22, r18_23, r18_25, r18_26, r18_24, r18_27, c18, F18, h_, go_sem, Int.reduceTMod, Int.reduceTDiv, Int.reduceDiv, Int.reduceMod, Int.reduceAdd, Int.reduceSub, Int.reduceMul, Int.reduceNeg, Int.reducePow, Int.reduceEq, ↓reduceIte, Nat.reduceEqDiff, Nat.reduceAdd, Nat.reduceMul, Nat.reduceLeDiff, Nat.reduceSub, Nat.reduceLT, Int.reduceToNat, Int.reduceLT, Int.reduceLE, reduceCtorEq]))
      exact ⟨rnil, 30, rfl, ⟨fun _ => ⟨rfl, rfl⟩, fun _ h => (by rw [hi] at h; cases h), fun _ h => (by rw [hi] at h; cases h), fun _ h => (by rw [hi] at h; cases h), fun _ h => (by rw [hi] at h; cases h), fun _ h => (by rw [hi] at h; cases h)⟩⟩
    · cases hlg : anyLg (wayL l c) (wayL l c).length
      · obtain ⟨rfl, hw1, hw2⟩ := hq3 hi hlg
        have nobad : (rightB pat ph = false ∨ l.all inP = false) → False := fun h => by rcases h with h | h <;> first | (rw [hright] at h; cases h) | (rw [hi] at h; cases h)
        have nolong : anyLg (wayL l c) (wayL l c).length = true → False := fun h => by rw [hlg] at h; cases h
        have hwl := way_len l c
        have hwi := way_all (c := c) hi
        have hf1 : ∀ id, id < n + 2 → M1 id = M0 id := fun id hid => by rw [hM1, unfrz_at, if_pos hid]
        have hw3 : RPt M1 n1 x (wayL l c) := hw1.keep' (Nat.le_refl _) (fun id hid => by rw [hM1, unfrz_at, if_neg (by have := hw2 id hid; omega)])
        have hlen := hw3.len
        generalize wayL l c = way at *
        by_cases hwe : way.length = 0
        · have hwe' : way = [] := List.length_eq_zero_iff.1 hwe
          have g1 : ((way.length : Int) = 0) = True := eq_true (by omega)
          try simp only [r18_0, r18_1, r18_2, r18_3, r18_4, r18_5, r18_6, r18_7, r18_8, r18_9, r18_10, r18_11, r18_12, r18_13, r18_14, r18_15, r18_16, r18_17, r18_18, r18_19, r18_20, r18_21, r18_22, r18_23, r18_25, r18_26, r18_24, r18_27, c18, F18, hlen, g1, go_sem, Int.reduceTMod, Int.reduceTDiv, Int.reduceDiv, Int.reduceMod, Int.reduceAdd, Int.reduceSub, Int.reduceMul, Int.reduceNeg, Int.reducePow, Int.reduceEq, ↓reduceIte, Nat.reduceEqDiff, Nat.reduceAdd, Nat.reduceMul, Nat.reduceLeDiff, Nat.reduceSub, Nat.reduceLT, Int.reduceToNat, Int.reduceLT, Int.reduceLE, reduceCtorEq]
          repeat' ((first | refine FK_split (fun h_ => ?_) (fun h_ => ?_) | refine GK_split (fun h_ => ?_) (fun h_ => ?_) | refine ite_both (fun h_ => ?_) (fun h_ => ?_)) <;> (try simp only [decide_eq_true_eq, decide_eq_false_iff_not, Bool.not_true, Bool.not_false, Bool.not_eq_true', Bool.not_eq_false', Bool.not_eq_eq_eq_not, Decidable.not_not] at h_) <;> (try simp only [r18_0, r18_1, r18_2, r18_3, r18_4, r18_5, r18_6, r18_7, r18_8, r18_9, r18_10, r18_11, r18_12, r18_13, r18_14, r18_15, r18_16, r18_17, r18_18, r18_19, r18_20, r18_21, r18_22, r18_23, r18_25, r18_26, r18_24, r18_27, c18, F18, hlen, g1, h_, go_sem, Int.reduceTMod, Int.reduceTDiv, Int.reduceDiv, Int.reduceMod, Int.reduceAdd, Int.reduceSub, Int.reduceMul, Int.reduceNeg, Int.reducePow, Int.reduceEq, ↓reduceIte, Nat.reduceEqDiff, Nat.reduceAdd, Nat.reduceMul, Nat.reduceLeDiff, Nat.reduceSub, Nat.reduceLT, Int.reduceToNat, Int.reduceLT, Int.reduceLE, reduceCtorEq]))
          exact ⟨rnil, 0, rfl, ⟨fun h => (nobad h).elim, fun _ _ h => (nolong h).elim, fun _ _ _ _ => ⟨rfl, rfl⟩, fun _ _ _ h => absurd hwe' h, fun _ _ _ h => absurd hwe' h, fun _ _ _ h => absurd hwe' h⟩⟩
        · have hwe' : way ≠ [] := fun e => hwe (by rw [e]; rfl)
          have g1 : ((way.length : Int) = 0) = False := eq_false (by omega)
          have hb2 : M1 n = some ⟨[c0, .sc (.bool c)], true⟩ := by rw [hf1 n (by omega)]; exact hb0
          have hb3 : M1 (n + 1) = some ⟨[pc, I ph], true⟩ := by rw [hf1 (n + 1) (by omega)]; exact hb1
          have hr2 : RPt M1 n1 (.one c0) l := hr0.keep hn1 hf1
          have hp2 : RIn M1 n1 (.one pc) pat := hp0.keep hn1 hf1
          have hpl2 := hp2.len
          by_cases hpe : pat.length = 0
          · have hpe' : pat = [] := List.length_eq_zero_iff.1 hpe
            have g2 : ((pat.length : Int) = 0) = True := eq_true (by omega)
            try simp only [r18_0, r18_1, r18_2, r18_3, r18_4, r18_5, r18_6, r18_7, r18_8, r18_9, r18_10, r18_11, r18_12, r18_13, r18_14, r18_15, r18_16, r18_17, r18_18, r18_19, r18_20, r18_21, r18_22, r18_23, r18_25, r18_26, r18_24, r18_27, c18, F18, hlen, g1, hb2, rd_of hb2, hb3, rd_of hb3, hpl2, g2, go_sem, Int.reduceTMod, Int.reduceTDiv, Int.reduceDiv, Int.reduceMod, Int.reduceAdd, Int.reduceSub, Int.reduceMul, Int.reduceNeg, Int.reducePow, Int.reduceEq, ↓reduceIte, Nat.reduceEqDiff, Nat.reduceAdd, Nat.reduceMul, Nat.reduceLeDiff, Nat.reduceSub, Nat.reduceLT, Int.reduceToNat, Int.reduceLT, Int.reduceLE, reduceCtorEq]
            repeat' ((first | refine FK_split (fun h_ => ?_) (fun h_ => ?_) | refine GK_split (fun h_ => ?_) (fun h_ => ?_) | refine ite_both (fun h_ => ?_) (fun h_ => ?_)) <;> (try simp only [decide_eq_true_eq, decide_eq_false_iff_not, Bool.not_true, Bool.not_false, Bool.not_eq_true', Bool.not_eq_false', Bool.not_eq_eq_eq_not, Decidable.not_not] at h_) <;> (try simp only [r18_0, r18_1, r18_2, r18_3, r18_4, r18_5, r18_6, r18_7, r18_8, r18_9, r18_10, r18_11, r18_12, r18_13, r18_14, r18_15, r18_16, r18_17, r18_18, r18_19, r18_20, r18_21, r18_22, r18_23, r18_25, r18_26, r18_24, r18_27, c18, F18, hlen, g1, hb2, rd_of hb2, hb3, rd_of hb3, hpl2, g2, h_, go_sem, Int.reduceTMod, Int.reduceTDiv, Int.reduceDiv, Int.reduceMod, Int.reduceAdd, Int.reduceSub, Int.reduceMul, Int.reduceNeg, Int.reducePow, Int.reduceEq, ↓reduceIte, Nat.reduceEqDiff, Nat.reduceAdd, Nat.reduceMul, Nat.reduceLeDiff, Nat.reduceSub, Nat.reduceLT, Int.reduceToNat, Int.reduceLT, Int.reduceLE, reduceCtorEq]))
            refine RK_callk ?_
            refine (w_Clone _ l _ _ hr2.frz (by omega)).mono ?_
            rintro r2 m2 n2 ⟨hc, hn2⟩
            obtain ⟨M2, hM2⟩ : ∃ M2, M2 = unfrz M1 n1 m2 := ⟨_, rfl⟩
            rw [← hM2, show max n1 n2 = n2 by omega]
            have hb4 : M2 n = some ⟨[c0, .sc (.bool c)], true⟩ := by rw [hM2, unfrz_at, if_pos (by omega)]; exact hb2
            have hcl : ∃ cl, r2 = .one cl ∧ RPt M2 n2 (.one cl) l ∧ ∀ j, sid (.one cl) = some j → n ≤ j := by
              rcases hc with ⟨rfl, rfl⟩ | ⟨id, cap, rfl, q1, q2, q3, q4⟩
              · exact ⟨_, rfl, RL.nil, fun j hj => by cases hj⟩
              · refine ⟨_, rfl, Or.inr ⟨id, 0, cap, rfl, q2, ?_⟩, fun j hj => by simp only [sid, Option.some.injEq] at hj; omega⟩
                have hfl := flatMap_len Pt.cs 2 cs2 l
                rw [rd_of (show M2 id = some ⟨l.flatMap Pt.cs, true⟩ by rw [hM2, unfrz_at, if_neg (by omega)]; exact q3)]
                unfold rdB
                rw [if_pos (by rw [hfl]; omega), List.drop_zero, ← hfl, List.take_length]
            obtain ⟨cl, rfl, hcr, hcs⟩ := hcl
            try simp only [hb4, rd_of hb4, go_sem, Int.reduceTMod, Int.reduceTDiv, Int.reduceDiv, Int.reduceMod, Int.reduceAdd, Int.reduceSub, Int.reduceMul, Int.reduceNeg, Int.reducePow, Int.reduceEq, ↓reduceIte, Nat.reduceEqDiff, Nat.reduceAdd, Nat.reduceMul, Nat.reduceLeDiff, Nat.reduceSub, Nat.reduceLT, Int.reduceToNat, Int.reduceLT, Int.reduceLE, reduceCtorEq]
            repeat' ((first | refine FK_split (fun h_ => ?_) (fun h_ => ?_) | refine GK_split (fun h_ => ?_) (fun h_ => ?_) | refine ite_both (fun h_ => ?_) (fun h_ => ?_)) <;> (try simp only [decide_eq_true_eq, decide_eq_false_iff_not, Bool.not_true, Bool.not_false, Bool.not_eq_true', Bool.not_eq_false', Bool.not_eq_eq_eq_not, Decidable.not_not] at h_) <;> (try simp only [hb4, rd_of hb4, h_, go_sem, Int.reduceTMod, Int.reduceTDiv, Int.reduceDiv, Int.reduceMod, Int.reduceAdd, Int.reduceSub, Int.reduceMul, Int.reduceNeg, Int.reducePow, Int.reduceEq, ↓reduceIte, Nat.reduceEqDiff, Nat.reduceAdd, Nat.reduceMul, Nat.reduceLeDiff, Nat.reduceSub, Nat.reduceLT, Int.reduceToNat, Int.reduceLT, Int.reduceLE, reduceCtorEq]))
            refine ⟨_, _, rfl, ⟨fun h => (nobad h).elim, fun _ _ h => (nolong h).elim, fun _ _ _ h => absurd h hwe', fun _ _ _ _ _ => ⟨rfl, n2, cl, rfl, by omega, by omega, upd_same _ _ _, hcr.keep (by omega) (fun id hid => upd_ne _ _ (by omega)), hcs⟩, fun _ _ _ _ h => absurd hpe' h, fun _ _ _ _ h => absurd hpe' h⟩⟩
          · have hpe' : pat ≠ [] := fun e => hpe (by rw [e]; rfl)
            have g2 : ((pat.length : Int) = 0) = False := eq_false (by omega)
            obtain ⟨hP, hph⟩ := right_pat hright hpe'
            have hpo := hP.po
            obtain ⟨x0, y0, y1, y2, y3⟩ := hP.get (k := 0) (Int.le_refl _) (by omega)
            rw [Int.toNat_zero] at y0 y1
            obtain ⟨id, off, cap, b, hpc, hid, hbb, hcc⟩ := RL.int hp2 y0
            simp only [Reg.one.injEq] at hpc
            have hpcb : ∀ j, sid (.one pc) = some j → j < n := fun j hj => hpr.lt hj
            have hidn : id < n := hpcb id (by rw [hpc]; rfl)
            have d1 : ((0 : Int) < (pat.length : Int)) = True := eq_true (by omega)
            have z1 := na_0 (show n + 1 < n1 by omega)
            obtain ⟨M2, hM2⟩ : ∃ M2, M2 = upd M1 n1 (some ⟨[pc, I ph, I 0, I x0, .sc (.slice none 0 0)], true⟩) := ⟨_, rfl⟩
            have hf2 : ∀ id, id < n1 → M2 id = M1 id := fun id hid => by rw [hM2, upd_ne _ _ (by omega)]
            rw [hpc] at hb3
            rw [Nat.add_zero] at hcc
            have hpl3 : lenO (.one (.sl id off pat.length cap 1)) = .some (pat.length : Int) := rfl
            try simp only [r18_0, r18_1, r18_2, r18_3, r18_4, r18_5, r18_6, r18_7, r18_8, r18_9, r18_10, r18_11, r18_12, r18_13, r18_14, r18_15, r18_16, r18_17, r18_18, r18_19, r18_20, r18_21, r18_22, r18_23, r18_25, r18_26, r18_24, r18_27, c18, F18, hlen, g1, hb2, rd_of hb2, hb3, rd_of hb3, hpl2, hpl3, g2, d1, z1, hbb, hcc, Nat.mul_one, Int.toNat_zero, Nat.add_zero, go_sem, Int.reduceTMod, Int.reduceTDiv, Int.reduceDiv, Int.reduceMod, Int.reduceAdd, Int.reduceSub, Int.reduceMul, Int.reduceNeg, Int.reducePow, Int.reduceEq, ↓reduceIte, Nat.reduceEqDiff, Nat.reduceAdd, Nat.reduceMul, Nat.reduceLeDiff, Nat.reduceSub, Nat.reduceLT, Int.reduceToNat, Int.reduceLT, Int.reduceLE, reduceCtorEq]
            repeat' ((first | refine FK_split (fun h_ => ?_) (fun h_ => ?_) | refine GK_split (fun h_ => ?_) (fun h_ => ?_) | refine ite_both (fun h_ => ?_) (fun h_ => ?_)) <;> (try simp only [decide_eq_true_eq, decide_eq_false_iff_not, Bool.not_true, Bool.not_false, Bool.not_eq_true', Bool.not_eq_false', Bool.not_eq_eq_eq_not, Decidable.not_not] at h_) <;> (try simp only [r18_0, r18_1, r18_2, r18_3, r18_4, r18_5, r18_6, r18_7, r18_8, r18_9, r18_10, r18_11, r18_12, r18_13, r18_14, r18_15, r18_16, r18_17, r18_18, r18_19, r18_20, r18_21, r18_22, r18_23, r18_25, r18_26, r18_24, r18_27, c18, F18, hlen, g1, hb2, rd_of hb2, hb3, rd_of hb3, hpl2, hpl3, g2, d1, z1, hbb, hcc, Nat.mul_one, Int.toNat_zero, Nat.add_zero, h_, go_sem, Int.reduceTMod, Int.reduceTDiv, Int.reduceDiv, Int.reduceMod, Int.reduceAdd, Int.reduceSub, Int.reduceMul, Int.reduceNeg, Int.reducePow, Int.reduceEq, ↓reduceIte, Nat.reduceEqDiff, Nat.reduceAdd, Nat.reduceMul, Nat.reduceLeDiff, Nat.reduceSub, Nat.reduceLT, Int.reduceToNat, Int.reduceLT, Int.reduceLE, reduceCtorEq]))
            rw [← hpc] at hb3 ⊢
            rw [← hM2]
            have hp3 : RIn M2 (n1 + 1) (.one pc) pat := hp2.keep (by omega) hf2
            have hw4 : RPt M2 (n1 + 1) x way := hw3.keep (by omega) hf2
            have hwb : ∀ j, sid x = .some j → j < n1 := fun j hj => hw3.lt hj
            refine phase_loop (pid := n1) (tb := n + 1) (wr := x) hP hph hp3 (fun j hj => by have := hpcb j hj; omega) (by omega) (by omega) (by rw [hf2 _ (by omega)]; exact hb3) (by rw [hM2, upd_same, y1]) ?_ ?_ ?_ ?_ (fun s s9 s7 sp sm sn => ?_)
            · simp only [go_sem, Int.reduceTMod, Int.reduceTDiv, Int.reduceDiv, Int.reduceMod, Int.reduceAdd, Int.reduceSub, Int.reduceMul, Int.reduceNeg, Int.reducePow, Int.reduceEq, ↓reduceIte, Nat.reduceEqDiff, Nat.reduceAdd, Nat.reduceMul, Nat.reduceLeDiff, Nat.reduceSub, Nat.reduceLT, Int.reduceToNat, Int.reduceLT, Int.reduceLE, reduceCtorEq]
            · simp only [go_sem, Int.reduceTMod, Int.reduceTDiv, Int.reduceDiv, Int.reduceMod, Int.reduceAdd, Int.reduceSub, Int.reduceMul, Int.reduceNeg, Int.reducePow, Int.reduceEq, ↓reduceIte, Nat.reduceEqDiff, Nat.reduceAdd, Nat.reduceMul, Nat.reduceLeDiff, Nat.reduceSub, Nat.reduceLT, Int.reduceToNat, Int.reduceLT, Int.reduceLE, reduceCtorEq]
            · simp only [go_sem, Int.reduceTMod, Int.reduceTDiv, Int.reduceDiv, Int.reduceMod, Int.reduceAdd, Int.reduceSub, Int.reduceMul, Int.reduceNeg, Int.reducePow, Int.reduceEq, ↓reduceIte, Nat.reduceEqDiff, Nat.reduceAdd, Nat.reduceMul, Nat.reduceLeDiff, Nat.reduceSub, Nat.reduceLT, Int.reduceToNat, Int.reduceLT, Int.reduceLE, reduceCtorEq]
            · simp only [go_sem, Int.reduceTMod, Int.reduceTDiv, Int.reduceDiv, Int.reduceMod, Int.reduceAdd, Int.reduceSub, Int.reduceMul, Int.reduceNeg, Int.reducePow, Int.reduceEq, ↓reduceIte, Nat.reduceEqDiff, Nat.reduceAdd, Nat.reduceMul, Nat.reduceLeDiff, Nat.reduceSub, Nat.reduceLT, Int.reduceToNat, Int.reduceLT, Int.reduceLE, reduceCtorEq]
            · obtain ⟨e, M3, N3⟩ := s
              simp only at s9 s7 sp sm sn
              subst sn
              obtain ⟨hb1', hb2', hb3'⟩ := phS_bd hP hph.1
              have hp4 : RIn M3 (n1 + 1) (.one pc) pat := hp3.keep' (Nat.le_refl _) (fun j hj => sm j (by have := hpcb j hj; omega))
              have hw5 : RPt M3 (n1 + 1) x way := hw4.keep' (Nat.le_refl _) (fun j hj => sm j (by have := hwb j hj; omega))
              have hst : pen0 pat ph way = ((phS pat ph).1, (phS pat ph).2, if (phS pat ph).1 % 2 = 0 then (way.take 1).map (fun p => [p]) else []) := rfl
              have hdl : dashL pat ph way = (dashTo pat way (pen0 pat ph way) (way.length - 1)).map (·.2.2) := rfl
              rw [hst] at hdl
              generalize (phS pat ph).1 = k0 at *
              generalize (phS pat ph).2 = left0 at *
              have vd := v_drawn (pid := n1) (m := frz M3) (n := n1 + 1) (pc := pc) (oc := .sc (.slice none 0 0)) (ph := ph) (k := k0) (left := left0) (o := false) (by rw [frz_at, sp]; rfl) hb1'.1
              have fin : ∀ (ls : List (List Pt)), ls = (if k0 % 2 = 0 then (way.take 1).map (fun p => [p]) else []) → ∀ (M : Mem) (N : Nat), n1 + 1 ≤ N → (∀ j, j < n1 → M j = M3 j) → DPen noA n1 M N pc ph k0 left0 ls → LineI pat 1 k0 left0 ls → ∀ e : Nat → Reg, e 12 = RI 1 → e 9 = .one (.ptr n1 0) → e 7 = x →
                  XK TA (.loop l18_1) ⟨e, M, N⟩ (Kt.blk 3 (Kt.seq (.seq (.reg r18_27) .ret) (Kt.fin [SRes.tmp 4, SRes.tmp 5] fun r' m' n' => ∃ x k, r' = .tup [x, RI k] ∧ DashQ l way c pat ph n x k m' n'))) := by
                intro ls hls M N hN hMf hD hI e q12 q9 q7
                refine lines_loop hP (hp4.keep' (by omega) (fun j hj => hMf j (by have := hpcb j hj; omega))) (fun j hj => by have := hpcb j hj; omega) (hw5.keep' (by omega) (fun j hj => hMf j (hwb j hj))) hwb hwi hlg (by omega) (by omega) hD hI q12 q9 q7 (fun hn s a b => ?_) (fun k' left' ls' s hs a hD' hI' => ?_)
                · rw [hls] at hn
                  rw [hn] at hdl
                  try simp only [a, b, go_sem, Int.reduceTMod, Int.reduceTDiv, Int.reduceDiv, Int.reduceMod, Int.reduceAdd, Int.reduceSub, Int.reduceMul, Int.reduceNeg, Int.reducePow, Int.reduceEq, ↓reduceIte, Nat.reduceEqDiff, Nat.reduceAdd, Nat.reduceMul, Nat.reduceLeDiff, Nat.reduceSub, Nat.reduceLT, Int.reduceToNat, Int.reduceLT, Int.reduceLE, reduceCtorEq]
                  repeat' ((first | refine FK_split (fun h_ => ?_) (fun h_ => ?_) | refine GK_split (fun h_ => ?_) (fun h_ => ?_) | refine ite_both (fun h_ => ?_) (fun h_ => ?_)) <;> (try simp only [decide_eq_true_eq, decide_eq_false_iff_not, Bool.not_true, Bool.not_false, Bool.not_eq_true', Bool.not_eq_false', Bool.not_eq_eq_eq_not, Decidable.not_not] at h_) <;> (try simp only [a, b, h_, go_sem, Int.reduceTMod, Int.reduceTDiv, Int.reduceDiv, Int.reduceMod, Int.reduceAdd, Int.reduceSub, Int.reduceMul, Int.reduceNeg, Int.reducePow, Int.reduceEq, ↓reduceIte, Nat.reduceEqDiff, Nat.reduceAdd, Nat.reduceMul, Nat.reduceLeDiff, Nat.reduceSub, Nat.reduceLT, Int.reduceToNat, Int.reduceLT, Int.reduceLE, reduceCtorEq]))
                  exact ⟨rnil, 36, rfl, ⟨fun h => (nobad h).elim, fun _ _ h => (nolong h).elim, fun _ _ _ h => absurd h hwe', fun _ _ _ _ h => absurd h hpe', fun _ _ _ _ _ _ => ⟨rfl, rfl⟩, fun _ _ _ _ _ ls h => (by rw [hdl] at h; cases h)⟩⟩
                · rw [hls] at hs
                  rw [hs] at hdl
                  obtain ⟨oc, gp, gpn, gO⟩ := hD'
                  obtain ⟨e, M', N'⟩ := s
                  simp only at a gp gpn gO
                  try simp only [r18_0, r18_1, r18_2, r18_3, r18_4, r18_5, r18_6, r18_7, r18_8, r18_9, r18_10, r18_11, r18_12, r18_13, r18_14, r18_15, r18_16, r18_17, r18_18, r18_19, r18_20, r18_21, r18_22, r18_23, r18_25, r18_26, r18_24, r18_27, c18, F18, a, gp, go_sem, Int.reduceTMod, Int.reduceTDiv, Int.reduceDiv, Int.reduceMod, Int.reduceAdd, Int.reduceSub, Int.reduceMul, Int.reduceNeg, Int.reducePow, Int.reduceEq, ↓reduceIte, Nat.reduceEqDiff, Nat.reduceAdd, Nat.reduceMul, Nat.reduceLeDiff, Nat.reduceSub, Nat.reduceLT, Int.reduceToNat, Int.reduceLT, Int.reduceLE, reduceCtorEq]
                  repeat' ((first | refine FK_split (fun h_ => ?_) (fun h_ => ?_) | refine GK_split (fun h_ => ?_) (fun h_ => ?_) | refine ite_both (fun h_ => ?_) (fun h_ => ?_)) <;> (try simp only [decide_eq_true_eq, decide_eq_false_iff_not, Bool.not_true, Bool.not_false, Bool.not_eq_true', Bool.not_eq_false', Bool.not_eq_eq_eq_not, Decidable.not_not] at h_) <;> (try simp only [r18_0, r18_1, r18_2, r18_3, r18_4, r18_5, r18_6, r18_7, r18_8, r18_9, r18_10, r18_11, r18_12, r18_13, r18_14, r18_15, r18_16, r18_17, r18_18, r18_19, r18_20, r18_21, r18_22, r18_23, r18_25, r18_26, r18_24, r18_27, c18, F18, a, gp, h_, go_sem, Int.reduceTMod, Int.reduceTDiv, Int.reduceDiv, Int.reduceMod, Int.reduceAdd, Int.reduceSub, Int.reduceMul, Int.reduceNeg, Int.reducePow, Int.reduceEq, ↓reduceIte, Nat.reduceEqDiff, Nat.reduceAdd, Nat.reduceMul, Nat.reduceLeDiff, Nat.reduceSub, Nat.reduceLT, Int.reduceToNat, Int.reduceLT, Int.reduceLE, reduceCtorEq]))
                  refine ⟨_, _, rfl, ⟨fun h => (nobad h).elim, fun _ _ h => (nolong h).elim, fun _ _ _ h => absurd h hwe', fun _ _ _ _ h => absurd h hpe', fun _ _ _ _ _ h => (by rw [hdl] at h; cases h), fun _ _ _ _ _ ls h => ⟨rfl, oc, n1, rfl, by omega, ?_⟩⟩⟩
                  rw [hdl] at h
                  simp only [Option.map_some, Option.some.injEq] at h
                  rw [← h]
                  exact gO
              cases hd : decide (k0 % 2 = 0)
              · rw [hd] at vd
                have hk2 : ¬ (k0 % 2 = 0) := of_decide_eq_false hd
                try simp only [r18_20, r18_21, r18_22, s9, vd, go_sem, Int.reduceTMod, Int.reduceTDiv, Int.reduceDiv, Int.reduceMod, Int.reduceAdd, Int.reduceSub, Int.reduceMul, Int.reduceNeg, Int.reducePow, Int.reduceEq, ↓reduceIte, Nat.reduceEqDiff, Nat.reduceAdd, Nat.reduceMul, Nat.reduceLeDiff, Nat.reduceSub, Nat.reduceLT, Int.reduceToNat, Int.reduceLT, Int.reduceLE, reduceCtorEq]
                repeat' ((first | refine FK_split (fun h_ => ?_) (fun h_ => ?_) | refine GK_split (fun h_ => ?_) (fun h_ => ?_) | refine ite_both (fun h_ => ?_) (fun h_ => ?_)) <;> (try simp only [decide_eq_true_eq, decide_eq_false_iff_not, Bool.not_true, Bool.not_false, Bool.not_eq_true', Bool.not_eq_false', Bool.not_eq_eq_eq_not, Decidable.not_not] at h_) <;> (try simp only [r18_20, r18_21, r18_22, s9, vd, h_, go_sem, Int.reduceTMod, Int.reduceTDiv, Int.reduceDiv, Int.reduceMod, Int.reduceAdd, Int.reduceSub, Int.reduceMul, Int.reduceNeg, Int.reducePow, Int.reduceEq, ↓reduceIte, Nat.reduceEqDiff, Nat.reduceAdd, Nat.reduceMul, Nat.reduceLeDiff, Nat.reduceSub, Nat.reduceLT, Int.reduceToNat, Int.reduceLT, Int.reduceLE, reduceCtorEq]))
                refine fin [] (by rw [if_neg hk2]) _ _ (Nat.le_refl _) (fun _ _ => rfl) ⟨_, sp, by omega, OSb.nil⟩ ⟨hb1'.1, hb1'.2, by omega, hb3', fun h => absurd h hk2, by simp, fun l hl => by cases hl⟩ _ ?_ ?_ ?_
                · simp only [go_sem, Int.reduceTMod, Int.reduceTDiv, Int.reduceDiv, Int.reduceMod, Int.reduceAdd, Int.reduceSub, Int.reduceMul, Int.reduceNeg, Int.reducePow, Int.reduceEq, ↓reduceIte, Nat.reduceEqDiff, Nat.reduceAdd, Nat.reduceMul, Nat.reduceLeDiff, Nat.reduceSub, Nat.reduceLT, Int.reduceToNat, Int.reduceLT, Int.reduceLE, reduceCtorEq]
                · simp only [s9, go_sem, Int.reduceTMod, Int.reduceTDiv, Int.reduceDiv, Int.reduceMod, Int.reduceAdd, Int.reduceSub, Int.reduceMul, Int.reduceNeg, Int.reducePow, Int.reduceEq, ↓reduceIte, Nat.reduceEqDiff, Nat.reduceAdd, Nat.reduceMul, Nat.reduceLeDiff, Nat.reduceSub, Nat.reduceLT, Int.reduceToNat, Int.reduceLT, Int.reduceLE, reduceCtorEq]
                · simp only [s7, go_sem, Int.reduceTMod, Int.reduceTDiv, Int.reduceDiv, Int.reduceMod, Int.reduceAdd, Int.reduceSub, Int.reduceMul, Int.reduceNeg, Int.reducePow, Int.reduceEq, ↓reduceIte, Nat.reduceEqDiff, Nat.reduceAdd, Nat.reduceMul, Nat.reduceLeDiff, Nat.reduceSub, Nat.reduceLT, Int.reduceToNat, Int.reduceLT, Int.reduceLE, reduceCtorEq]
              · rw [hd] at vd
                have hk2 : k0 % 2 = 0 := of_decide_eq_true hd
                have hq0 : way[0]? = .some (way[0]'(by omega)) := List.getElem?_eq_getElem (by omega)
                obtain ⟨wid, woff, wcap, hwr, hwid, hwrd⟩ := hw5.at cs2 hq0
                rw [Nat.zero_mul, Nat.add_zero] at hwrd
                have ht1 : (way.take 1).map (fun p => [p]) = [[way[0]'(by omega)]] := by
                  match way, hwe with
                  | p :: t, _ => rfl
                generalize (way[0]'(by omega)) = p0 at *
                have d3 : ((0 : Int) < (way.length : Int)) = True := eq_true (by omega)
                have s7' := s7
                rw [hwr] at s7'
                try simp only [r18_20, r18_21, s9, s7', vd, sp, hwrd, lenO, d3, Int.toNat_zero, Nat.zero_mul, Nat.add_zero, go_sem, Int.reduceTMod, Int.reduceTDiv, Int.reduceDiv, Int.reduceMod, Int.reduceAdd, Int.reduceSub, Int.reduceMul, Int.reduceNeg, Int.reducePow, Int.reduceEq, ↓reduceIte, Nat.reduceEqDiff, Nat.reduceAdd, Nat.reduceMul, Nat.reduceLeDiff, Nat.reduceSub, Nat.reduceLT, Int.reduceToNat, Int.reduceLT, Int.reduceLE, reduceCtorEq]
                repeat' ((first | refine FK_split (fun h_ => ?_) (fun h_ => ?_) | refine GK_split (fun h_ => ?_) (fun h_ => ?_) | refine ite_both (fun h_ => ?_) (fun h_ => ?_)) <;> (try simp only [decide_eq_true_eq, decide_eq_false_iff_not, Bool.not_true, Bool.not_false, Bool.not_eq_true', Bool.not_eq_false', Bool.not_eq_eq_eq_not, Decidable.not_not] at h_) <;> (try simp only [r18_20, r18_21, s9, s7', vd, sp, hwrd, lenO, d3, Int.toNat_zero, Nat.zero_mul, Nat.add_zero, h_, go_sem, Int.reduceTMod, Int.reduceTDiv, Int.reduceDiv, Int.reduceMod, Int.reduceAdd, Int.reduceSub, Int.reduceMul, Int.reduceNeg, Int.reducePow, Int.reduceEq, ↓reduceIte, Nat.reduceEqDiff, Nat.reduceAdd, Nat.reduceMul, Nat.reduceLeDiff, Nat.reduceSub, Nat.reduceLT, Int.reduceToNat, Int.reduceLT, Int.reduceLE, reduceCtorEq]))
                refine K_piece (p := p0) (A := noA) (pid := n1) OSb.nil (by omega) (fun j h => h.elim) (by simp) ?_
                intro cc m' hO2 hf2 hsc
                have gp2 : m' n1 = some ⟨[pc, I ph, I k0, I left0, .sc (.slice none 0 0)], true⟩ := by rw [hf2 n1 (by omega) (Or.inl (Nat.le_refl _))]; exact sp
                try simp only [r18_22, s9, gp2, go_sem, Int.reduceTMod, Int.reduceTDiv, Int.reduceDiv, Int.reduceMod, Int.reduceAdd, Int.reduceSub, Int.reduceMul, Int.reduceNeg, Int.reducePow, Int.reduceEq, ↓reduceIte, Nat.reduceEqDiff, Nat.reduceAdd, Nat.reduceMul, Nat.reduceLeDiff, Nat.reduceSub, Nat.reduceLT, Int.reduceToNat, Int.reduceLT, Int.reduceLE, reduceCtorEq]
                repeat' ((first | refine FK_split (fun h_ => ?_) (fun h_ => ?_) | refine GK_split (fun h_ => ?_) (fun h_ => ?_) | refine ite_both (fun h_ => ?_) (fun h_ => ?_)) <;> (try simp only [decide_eq_true_eq, decide_eq_false_iff_not, Bool.not_true, Bool.not_false, Bool.not_eq_true', Bool.not_eq_false', Bool.not_eq_eq_eq_not, Decidable.not_not] at h_) <;> (try simp only [r18_22, s9, gp2, h_, go_sem, Int.reduceTMod, Int.reduceTDiv, Int.reduceDiv, Int.reduceMod, Int.reduceAdd, Int.reduceSub, Int.reduceMul, Int.reduceNeg, Int.reducePow, Int.reduceEq, ↓reduceIte, Nat.reduceEqDiff, Nat.reduceAdd, Nat.reduceMul, Nat.reduceLeDiff, Nat.reduceSub, Nat.reduceLT, Int.reduceToNat, Int.reduceLT, Int.reduceLE, reduceCtorEq]))
                refine fin [[p0]] (by rw [if_pos hk2, ht1]) _ _ (by omega) (fun j hj => ?_) ⟨cc, upd_same _ _ _, by omega, hO2.keep (Nat.le_refl _) (fun j q1 q2 q3 => upd_ne _ _ (by omega)) (fun j _ h => h)⟩ ⟨hb1'.1, hb1'.2, by omega, hb3', fun _ => by simp, by simp, fun l hl => ?_⟩ _ ?_ ?_ ?_
                · rw [upd_ne _ _ (by omega), hf2 j (by omega) (Or.inl (by omega))]
                · simp at hl
                  subst hl
                  simp only [List.length_singleton]
                  omega
                · simp only [go_sem, Int.reduceTMod, Int.reduceTDiv, Int.reduceDiv, Int.reduceMod, Int.reduceAdd, Int.reduceSub, Int.reduceMul, Int.reduceNeg, Int.reducePow, Int.reduceEq, ↓reduceIte, Nat.reduceEqDiff, Nat.reduceAdd, Nat.reduceMul, Nat.reduceLeDiff, Nat.reduceSub, Nat.reduceLT, Int.reduceToNat, Int.reduceLT, Int.reduceLE, reduceCtorEq]
                · simp only [s9, go_sem, Int.reduceTMod, Int.reduceTDiv, Int.reduceDiv, Int.reduceMod, Int.reduceAdd, Int.reduceSub, Int.reduceMul, Int.reduceNeg, Int.reducePow, Int.reduceEq, ↓reduceIte, Nat.reduceEqDiff, Nat.reduceAdd, Nat.reduceMul, Nat.reduceLeDiff, Nat.reduceSub, Nat.reduceLT, Int.reduceToNat, Int.reduceLT, Int.reduceLE, reduceCtorEq]
                · simp only [s7, go_sem, Int.reduceTMod, Int.reduceTDiv, Int.reduceDiv, Int.reduceMod, Int.reduceAdd, Int.reduceSub, Int.reduceMul, Int.reduceNeg, Int.reducePow, Int.reduceEq, ↓reduceIte, Nat.reduceEqDiff, Nat.reduceAdd, Nat.reduceMul, Nat.reduceLeDiff, Nat.reduceSub, Nat.reduceLT, Int.reduceToNat, Int.reduceLT, Int.reduceLE, reduceCtorEq]
      · obtain ⟨rfl, rfl⟩ := hq2 hi hlg
        try simp only [r18_0, r18_1, r18_2, r18_3, r18_4, r18_5, r18_6, r18_7, r18_8, r18_9, r18_10, r18_11, r18_12, r18_13, r18_14, r18_15, r18_16, r18_17, r18_18, r18_19, r18_20, r18_21, r18_22, r18_23, r18_25, r18_26, r18_24, r18_27, c18, F18, go_sem, Int.reduceTMod, Int.reduceTDiv, Int.reduceDiv, Int.reduceMod, Int.reduceAdd, Int.reduceSub, Int.reduceMul, Int.reduceNeg, Int.reducePow, Int.reduceEq, ↓reduceIte, Nat.reduceEqDiff, Nat.reduceAdd, Nat.reduceMul, Nat.reduceLeDiff, Nat.reduceSub, Nat.reduceLT, Int.reduceToNat, Int.reduceLT, Int.reduceLE, reduceCtorEq]
        repeat' ((first | refine FK_split (fun h_ => ?_) (fun h_ => ?_) | refine GK_split (fun h_ => ?_) (fun h_ => ?_) | refine ite_both (fun h_ => ?_) (fun h_ => ?_)) <;> (try simp only [decide_eq_true_eq, decide_eq_false_iff_not, Bool.not_true, Bool.not_false, Bool.not_eq_true', Bool.not_eq_false', Bool.not_eq_eq_eq_not, Decidable.not_not] at h_) <;> (try simp only [r18_0, r18_1, r18_2, r18_3, r18_4, r18_5, r18_6, r18_7, r18_8, r18_9, r18_10, r18_11, r18_12, r18_13, r18_14, r18_15, r18_16, r18_17, r18_18, r18_19, r18_20, r18_21, r18_22, r18_23, r18_25, r18_26, r18_24, r18_27, c18, F18, h_, go_sem, Int.reduceTMod, Int.reduceTDiv, Int.reduceDiv, Int.reduceMod, Int.reduceAdd, Int.reduceSub, Int.reduceMul, Int.reduceNeg, Int.reducePow, Int.reduceEq, ↓reduceIte, Nat.reduceEqDiff, Nat.reduceAdd, Nat.reduceMul, Nat.reduceLeDiff, Nat.reduceSub, Nat.reduceLT, Int.reduceToNat, Int.reduceLT, Int.reduceLE, reduceCtorEq]))
        exact ⟨rnil, 10, rfl, ⟨fun h => (by rcases h with h | h <;> first | (rw [hright] at h; cases h) | (rw [hi] at h; cases h)), fun _ _ _ => ⟨rfl, rfl⟩, fun _ _ h => (by rw [hlg] at h; cases h), fun _ _ h => (by rw [hlg] at h; cases h), fun _ _ h => (by rw [hlg] at h; cases h), fun _ _ h => (by rw [hlg] at h; cases h)⟩⟩

/- What holds of all pieces. Plain. Conditions: those that each theorem names. -/
open Go Go.Proofs
set_option linter.unusedVariables false

section
variable {P : Pt → Prop} {J : List (List Pt) → Prop} (j1 : ∀ ls p, J ls → P p → J (addL ls p)) (j2 : ∀ ls p, J ls → P p → J (ls ++ [[p]])) {pat : List Int} (hP : PatI pat)
include j1 j2
theorem nextL_J {k k' : Int} {ls : List (List Pt)} {p : Pt} (h : J ls) (hp : P p) : J (nextL k k' ls p) := by
  unfold nextL
  have h1 : J (if k % 2 = 0 then addL ls p else ls) := by
    split
    · exact j1 _ _ h hp
    · exact h
  generalize (if k % 2 = 0 then addL ls p else ls) = l1 at *
  split
  · exact j2 _ _ h1 hp
  · rw [List.append_nil]; exact h1
include hP
theorem lineGo_J {a b : Pt} {N C : Int} (hC : 1 ≤ C) (hpl : ∀ t, 0 ≤ t → t ≤ N → 0 < N → P (placeP a.x a.y b.x b.y t N)) : ∀ (f : Nat) (t k left : Int) (ls : List (List Pt)), LineI pat C k left ls → 0 ≤ t → t ≤ N → meas N t left < f → J ls → ∀ r, lineGo pat a b N f t k left ls = some r → J r.2.2.2 ∧ LineI pat C r.2.1 r.2.2.1 r.2.2.2 ∧ r.1 ≤ N ∧ ¬ r.2.2.1 < N - r.1
  | 0, _, _, _, _, _, _, _, hm, _, _, _ => by omega
  | f + 1, t, k, left, ls, hI, ht, htN, hm, hJ, r, h => by
    rw [lineGo] at h
    split at h
    · rename_i g
      split at h
      · cases h
      · rename_i g2
        have hl0 := hI.l0
        obtain ⟨x, _, x1, x2, x3⟩ := hP.at k
        have hn := hI.next hP (placeP a.x a.y b.x b.y (t + left) N) hC g2
        rw [x1] at h hn
        refine lineGo_J hC hpl f _ _ _ _ hn (by omega) (by omega) ?_ (nextL_J j1 j2 hJ (hpl _ (by omega) (by omega) (by omega))) r h
        unfold meas at hm ⊢
        split <;> split at hm <;> omega
    · rename_i g
      cases h
      exact ⟨hJ, hI, htN, g⟩
theorem lineS_J {a b : Pt} {C k left : Int} {ls : List (List Pt)} (hC : 1 ≤ C) (hN : 0 ≤ lenQ a b) (hpl : ∀ t, 0 ≤ t → t ≤ lenQ a b → 0 < lenQ a b → P (placeP a.x a.y b.x b.y t (lenQ a b))) (hb : P b) (hI : LineI pat C k left ls) (hJ : J ls) {k' left' : Int} {ls' : List (List Pt)}
    (h : lineS pat a b k left ls = some (k', left', ls')) : J ls' ∧ LineI pat (C + 1) k' left' ls' := by
  unfold lineS at h
  cases hr : lineGo pat a b (lenQ a b) (2 * (lenQ a b).toNat + 2) 0 k left ls with
  | none => rw [hr] at h; cases h
  | some r =>
    obtain ⟨t1, k1, left1, ls1⟩ := r
    obtain ⟨q1, q2, q3, q4⟩ := lineGo_J j1 j2 hP hC hpl _ 0 k left ls hI (Int.le_refl _) hN (by unfold meas; split <;> omega) hJ _ hr
    simp only at q1 q2 q3 q4
    rw [hr] at h
    simp only [lineE, Option.some.injEq, Prod.mk.injEq] at h
    obtain ⟨rfl, rfl, rfl⟩ := h
    refine ⟨?_, q2.point b (by omega) (by omega)⟩
    split
    · exact j1 _ _ q1 hb
    · exact q1
theorem dashTo_J {way : List Pt} {k left : Int} {ls : List (List Pt)} (hI : LineI pat 1 k left ls) (hJ : J ls)
    (hw : ∀ i a b, way[i]? = some a → way[i + 1]? = some b → 0 ≤ lenQ a b ∧ (∀ t, 0 ≤ t → t ≤ lenQ a b → 0 < lenQ a b → P (placeP a.x a.y b.x b.y t (lenQ a b))) ∧ P b) :
    ∀ (i : Nat) (k' left' : Int) (ls' : List (List Pt)), dashTo pat way (k, left, ls) i = some (k', left', ls') → J ls' ∧ LineI pat (1 + i) k' left' ls'
  | 0, k', left', ls', h => by
    rw [dashTo] at h
    cases h
    exact ⟨hJ, hI⟩
  | i + 1, k', left', ls', h => by
    rw [dashTo] at h
    cases hr : dashTo pat way (k, left, ls) i with
    | none => rw [hr] at h; cases h
    | some st =>
      obtain ⟨k1, left1, ls1⟩ := st
      rw [hr] at h
      obtain ⟨q1, q2⟩ := dashTo_J hI hJ hw i k1 left1 ls1 hr
      have e : (1 : Int) + ((i + 1 : Nat) : Int) = 1 + (i : Int) + 1 := by omega
      rw [e]
      simp only at h
      split at h
      · rename_i a b ha hb
        obtain ⟨w1, w2, w3⟩ := hw i a b ha hb
        exact lineS_J j1 j2 hP (by omega) w1 w2 w3 q2 q1 h
      · cases h
        exact ⟨q1, ⟨q2.k0, q2.k1, q2.l0, q2.l1, q2.ne, q2.le, fun l hl => by have := q2.bd l hl; omega⟩⟩
theorem dashL_J {way : List Pt} {ph : Int} (hph : 0 ≤ ph) (h0 : J (pen0 pat ph way).2.2) (hwe : way ≠ [])
    (hw : ∀ i a b, way[i]? = some a → way[i + 1]? = some b → 0 ≤ lenQ a b ∧ (∀ t, 0 ≤ t → t ≤ lenQ a b → 0 < lenQ a b → P (placeP a.x a.y b.x b.y t (lenQ a b))) ∧ P b) {ls : List (List Pt)} (h : dashL pat ph way = some ls) : J ls ∧ ls.length ≤ 4096 ∧ ∀ l ∈ ls, l.length < 4294967296 - 1 ∨ 1000000 < way.length := by
  obtain ⟨b1, b2, b3⟩ := phS_bd hP hph
  unfold dashL at h
  cases hr : dashTo pat way (pen0 pat ph way) (way.length - 1) with
  | none => rw [hr] at h; cases h
  | some st =>
    obtain ⟨k1, left1, ls1⟩ := st
    rw [hr] at h
    simp only [Option.map_some, Option.some.injEq] at h
    subst h
    have hI : LineI pat 1 (pen0 pat ph way).1 (pen0 pat ph way).2.1 (pen0 pat ph way).2.2 := by
      unfold pen0
      simp only
      refine ⟨b1.1, b1.2, by omega, b3, fun he => ?_, ?_, fun l hl => ?_⟩
      · rw [if_pos he]
        match way, hwe with
        | p :: t, _ => simp
      · split
        · match way, hwe with
          | p :: t, _ => simp
        · simp
      · split at hl
        · rename_i he
          rw [if_pos he]
          match way, hwe with
          | p :: t, _ =>
            simp at hl
            subst hl
            simp
            omega
        · cases hl
    obtain ⟨q1, q2⟩ := dashTo_J j1 j2 hP hI h0 hw _ k1 left1 ls1 hr
    refine ⟨q1, q2.le, fun l hl => ?_⟩
    by_cases g : 1000000 < way.length
    · exact Or.inr g
    · have := q2.bd l hl
      have := q2.le
      exact Or.inl (by omega)
end
/-- Pieces with points, all of them right. -/
def GoodL (P : Pt → Prop) (ls : List (List Pt)) : Prop := ∀ l ∈ ls, l ≠ [] ∧ ∀ p ∈ l, P p
theorem good_add {P : Pt → Prop} (ls : List (List Pt)) (p : Pt) (h : GoodL P ls) (hp : P p) : GoodL P (addL ls p) := fun l hl => by
  obtain ⟨l0, m1, m2⟩ := addL_mem ls p l hl
  obtain ⟨g1, g2⟩ := h l0 m1
  rcases m2 with rfl | rfl
  · exact ⟨g1, g2⟩
  · refine ⟨by simp, fun q hq => ?_⟩
    rw [List.mem_append, List.mem_singleton] at hq
    rcases hq with hq | rfl
    · exact g2 q hq
    · exact hp
theorem good_new {P : Pt → Prop} (ls : List (List Pt)) (p : Pt) (h : GoodL P ls) (hp : P p) : GoodL P (ls ++ [[p]]) := fun l hl => by
  rw [List.mem_append, List.mem_singleton] at hl
  rcases hl with hl | rfl
  · exact h l hl
  · exact ⟨by simp, fun q hq => by rw [List.mem_singleton] at hq; rw [hq]; exact hp⟩
/-- The first piece begins there. -/
def HdL (p0 : Pt) (ls : List (List Pt)) : Prop := ∃ t r, ls = (p0 :: t) :: r
theorem hd_add {p0 : Pt} (ls : List (List Pt)) (p : Pt) (h : HdL p0 ls) (_ : True) : HdL p0 (addL ls p) := by
  obtain ⟨t, r, rfl⟩ := h
  cases r with
  | nil => exact ⟨t ++ [p], [], rfl⟩
  | cons y r => exact ⟨t, addL (y :: r) p, rfl⟩
theorem hd_new {p0 : Pt} (ls : List (List Pt)) (p : Pt) (h : HdL p0 ls) (_ : True) : HdL p0 (ls ++ [[p]]) := by
  obtain ⟨t, r, rfl⟩ := h
  exact ⟨t, r ++ [[p]], rfl⟩
theorem pln_memD {l : List Pt} : ∀ {i : Nat} {a : Pt}, a ∈ pln l i → a ∈ l
  | 0, a, h => by cases h
  | i + 1, a, h => by
    rw [pln] at h
    split at h
    · rw [List.mem_append] at h
      rcases h with h | h
      · exact pln_memD h
      · cases hp : l[i]? with
        | none => rw [hp] at h; cases h
        | some p =>
          rw [hp] at h
          simp at h
          subst h
          exact List.mem_of_getElem? hp
    · exact pln_memD h
theorem way_mem {l : List Pt} {c : Bool} {a : Pt} (h : a ∈ wayL l c) : a ∈ l := by
  unfold wayL at h
  split at h
  · rw [List.mem_append] at h
    rcases h with h | h
    · exact pln_memD h
    · exact pln_memD (List.mem_of_mem_take h)
  · exact pln_memD h
theorem pln_head {p : Pt} {l : List Pt} : ∀ i, i ≤ l.length → ∃ t, pln (p :: l) (i + 1) = p :: t
  | 0, _ => ⟨[], by rw [pln]; simp [pln]⟩
  | i + 1, hi => by
    obtain ⟨t, ht⟩ := pln_head (p := p) (l := l) i (by omega)
    rw [pln]
    split
    · exact ⟨t ++ ((p :: l)[i + 1]?).toList, by rw [ht]; rfl⟩
    · exact ⟨t, ht⟩
theorem way_head {p : Pt} {l : List Pt} {c : Bool} : ∃ t, wayL (p :: l) c = p :: t := by
  obtain ⟨t, ht⟩ := pln_head (p := p) (l := l) l.length (Nat.le_refl _)
  unfold wayL
  rw [List.length_cons, ht]
  split
  · exact ⟨t ++ (p :: t).take 1, rfl⟩
  · exact ⟨t, rfl⟩
/-- A place on a line lies where its ends lie. -/
theorem place_box {a b : Pt} {t x0 y0 x1 y1 : Int} (hlg : longB (b.x - a.x) (b.y - a.y) = false) (ht : 0 ≤ t) (htn : t ≤ lenQ a b) (hn : 0 < lenQ a b) (ha : (x0 ≤ a.x ∧ a.x < x1) ∧ y0 ≤ a.y ∧ a.y < y1) (hb : (x0 ≤ b.x ∧ b.x < x1) ∧ y0 ≤ b.y ∧ b.y < y1) :
    (x0 ≤ (placeP a.x a.y b.x b.y t (lenQ a b)).x ∧ (placeP a.x a.y b.x b.y t (lenQ a b)).x < x1) ∧ y0 ≤ (placeP a.x a.y b.x b.y t (lenQ a b)).y ∧ (placeP a.x a.y b.x b.y t (lenQ a b)).y < y1 := by
  have hN := lenQ_bd hlg
  rw [long_iff] at hlg
  obtain ⟨_, u1, u2⟩ := at_bd ht htn hn hN.2 hlg.1
  obtain ⟨_, v1, v2⟩ := at_bd ht htn hn hN.2 hlg.2
  unfold placeP
  simp only
  rcases Int.le_total 0 (b.x - a.x) with g | g <;> rcases Int.le_total 0 (b.y - a.y) with g' | g'
  · have := u1 g; have := v1 g'; omega
  · have := u1 g; have := v2 g'; omega
  · have := u2 g; have := v1 g'; omega
  · have := u2 g; have := v2 g'; omega

/- Boxes walked: joined, has, the bound of points. Conditions: those that each theorem names. -/
open Go Go.Proofs
set_option linter.unusedSimpArgs false
set_option linter.unusedVariables false

structure Bx where
  x0 : Int
  y0 : Int
  x1 : Int
  y1 : Int
abbrev Bx.cs (b : Bx) : List Cell := [I b.x0, I b.y0, I b.x1, I b.y1]
abbrev Bx.r (b : Bx) : Reg := .agg [I b.x0, I b.y0, I b.x1, I b.y1]
def Bx.emp (b : Bx) : Bool := decide (b.x1 ≤ b.x0) || decide (b.y1 ≤ b.y0)
def Bx.has (b : Bx) (p : Pt) : Bool := decide (b.x0 ≤ p.x) && (decide (p.x < b.x1) && (decide (b.y0 ≤ p.y) && decide (p.y < b.y1)))
def Bx.join (b c : Bx) : Bx := if b.emp = true ∧ c.emp = true then ⟨0, 0, 0, 0⟩ else if b.emp = true then c else if c.emp = true then b else ⟨mnI b.x0 c.x0, mnI b.y0 c.y0, mxI b.x1 c.x1, mxI b.y1 c.y1⟩
theorem v_BEmpty (a b c d : Int) (m : Mem) (n : Nat) : callF TA 56 [.agg [I a, I b, I c, I d]] m n = some (RB (decide (c ≤ a) || decide (d ≤ b))) := by
  refine callF_of (Fn_ofK (fn := F56) rfl (by simp [F56]) ?_)
  by_cases h : c ≤ a
  · skip
    try simp only [r56_0, r56_1, c56, F56, h, Bool.true_or, go_sem, Int.reduceTMod, Int.reduceTDiv, Int.reduceDiv, Int.reduceMod, Int.reduceAdd, Int.reduceSub, Int.reduceMul, Int.reduceNeg, Int.reducePow, Int.reduceEq, ↓reduceIte, Nat.reduceEqDiff, Nat.reduceAdd, Nat.reduceMul, Nat.reduceLeDiff, Nat.reduceSub, Nat.reduceLT, Int.reduceToNat, Int.reduceLT, Int.reduceLE, reduceCtorEq]
    repeat' ((first | refine FK_split (fun h_ => ?_) (fun h_ => ?_) | refine GK_split (fun h_ => ?_) (fun h_ => ?_) | refine ite_both (fun h_ => ?_) (fun h_ => ?_)) <;> (try simp only [decide_eq_true_eq, decide_eq_false_iff_not, Bool.not_true, Bool.not_false, Bool.not_eq_true', Bool.not_eq_false', Bool.not_eq_eq_eq_not, Decidable.not_not] at h_) <;> (try simp only [r56_0, r56_1, c56, F56, h, Bool.true_or, h_, go_sem, Int.reduceTMod, Int.reduceTDiv, Int.reduceDiv, Int.reduceMod, Int.reduceAdd, Int.reduceSub, Int.reduceMul, Int.reduceNeg, Int.reducePow, Int.reduceEq, ↓reduceIte, Nat.reduceEqDiff, Nat.reduceAdd, Nat.reduceMul, Nat.reduceLeDiff, Nat.reduceSub, Nat.reduceLT, Int.reduceToNat, Int.reduceLT, Int.reduceLE, reduceCtorEq]))
  · skip
    try simp only [r56_0, r56_1, c56, F56, h, Bool.false_or, go_sem, Int.reduceTMod, Int.reduceTDiv, Int.reduceDiv, Int.reduceMod, Int.reduceAdd, Int.reduceSub, Int.reduceMul, Int.reduceNeg, Int.reducePow, Int.reduceEq, ↓reduceIte, Nat.reduceEqDiff, Nat.reduceAdd, Nat.reduceMul, Nat.reduceLeDiff, Nat.reduceSub, Nat.reduceLT, Int.reduceToNat, Int.reduceLT, Int.reduceLE, reduceCtorEq]
    repeat' ((first | refine FK_split (fun h_ => ?_) (fun h_ => ?_) | refine GK_split (fun h_ => ?_) (fun h_ => ?_) | refine ite_both (fun h_ => ?_) (fun h_ => ?_)) <;> (try simp only [decide_eq_true_eq, decide_eq_false_iff_not, Bool.not_true, Bool.not_false, Bool.not_eq_true', Bool.not_eq_false', Bool.not_eq_eq_eq_not, Decidable.not_not] at h_) <;> (try simp only [r56_0, r56_1, c56, F56, h, Bool.false_or, h_, go_sem, Int.reduceTMod, Int.reduceTDiv, Int.reduceDiv, Int.reduceMod, Int.reduceAdd, Int.reduceSub, Int.reduceMul, Int.reduceNeg, Int.reducePow, Int.reduceEq, ↓reduceIte, Nat.reduceEqDiff, Nat.reduceAdd, Nat.reduceMul, Nat.reduceLeDiff, Nat.reduceSub, Nat.reduceLT, Int.reduceToNat, Int.reduceLT, Int.reduceLE, reduceCtorEq]))
theorem v_BJoin (b c : Bx) (m : Mem) (n : Nat) : callF TA 46 [.agg [I b.x0, I b.y0, I b.x1, I b.y1], .agg [I c.x0, I c.y0, I c.x1, I c.y1]] m n = some (b.join c).r := by
  refine callF_of (Fn_ofK (fn := F46) rfl (by simp [F46]) ?_)
  have eb : b.emp = (decide (b.x1 ≤ b.x0) || decide (b.y1 ≤ b.y0)) := rfl
  have ec : c.emp = (decide (c.x1 ≤ c.x0) || decide (c.y1 ≤ c.y0)) := rfl
  have vb := v_BEmpty b.x0 b.y0 b.x1 b.y1
  have vc := v_BEmpty c.x0 c.y0 c.x1 c.y1
  rw [← eb] at vb
  rw [← ec] at vc
  unfold Bx.join
  cases hb : b.emp <;> cases hc : c.emp <;> rw [hb] at vb <;> rw [hc] at vc
  · skip
    try simp only [r46_0, r46_1, r46_2, r46_3, r46_4, r46_5, r46_6, r46_7, c46, F46, vb, vc, minI_two, maxI_two, go_sem, Int.reduceTMod, Int.reduceTDiv, Int.reduceDiv, Int.reduceMod, Int.reduceAdd, Int.reduceSub, Int.reduceMul, Int.reduceNeg, Int.reducePow, Int.reduceEq, ↓reduceIte, Nat.reduceEqDiff, Nat.reduceAdd, Nat.reduceMul, Nat.reduceLeDiff, Nat.reduceSub, Nat.reduceLT, Int.reduceToNat, Int.reduceLT, Int.reduceLE, reduceCtorEq]
    repeat' ((first | refine FK_split (fun h_ => ?_) (fun h_ => ?_) | refine GK_split (fun h_ => ?_) (fun h_ => ?_) | refine ite_both (fun h_ => ?_) (fun h_ => ?_)) <;> (try simp only [decide_eq_true_eq, decide_eq_false_iff_not, Bool.not_true, Bool.not_false, Bool.not_eq_true', Bool.not_eq_false', Bool.not_eq_eq_eq_not, Decidable.not_not] at h_) <;> (try simp only [r46_0, r46_1, r46_2, r46_3, r46_4, r46_5, r46_6, r46_7, c46, F46, vb, vc, minI_two, maxI_two, h_, go_sem, Int.reduceTMod, Int.reduceTDiv, Int.reduceDiv, Int.reduceMod, Int.reduceAdd, Int.reduceSub, Int.reduceMul, Int.reduceNeg, Int.reducePow, Int.reduceEq, ↓reduceIte, Nat.reduceEqDiff, Nat.reduceAdd, Nat.reduceMul, Nat.reduceLeDiff, Nat.reduceSub, Nat.reduceLT, Int.reduceToNat, Int.reduceLT, Int.reduceLE, reduceCtorEq]))
  · skip
    try simp only [r46_0, r46_1, r46_2, r46_3, r46_4, r46_5, r46_6, r46_7, c46, F46, vb, vc, minI_two, maxI_two, go_sem, Int.reduceTMod, Int.reduceTDiv, Int.reduceDiv, Int.reduceMod, Int.reduceAdd, Int.reduceSub, Int.reduceMul, Int.reduceNeg, Int.reducePow, Int.reduceEq, ↓reduceIte, Nat.reduceEqDiff, Nat.reduceAdd, Nat.reduceMul, Nat.reduceLeDiff, Nat.reduceSub, Nat.reduceLT, Int.reduceToNat, Int.reduceLT, Int.reduceLE, reduceCtorEq]
    repeat' ((first | refine FK_split (fun h_ => ?_) (fun h_ => ?_) | refine GK_split (fun h_ => ?_) (fun h_ => ?_) | refine ite_both (fun h_ => ?_) (fun h_ => ?_)) <;> (try simp only [decide_eq_true_eq, decide_eq_false_iff_not, Bool.not_true, Bool.not_false, Bool.not_eq_true', Bool.not_eq_false', Bool.not_eq_eq_eq_not, Decidable.not_not] at h_) <;> (try simp only [r46_0, r46_1, r46_2, r46_3, r46_4, r46_5, r46_6, r46_7, c46, F46, vb, vc, minI_two, maxI_two, h_, go_sem, Int.reduceTMod, Int.reduceTDiv, Int.reduceDiv, Int.reduceMod, Int.reduceAdd, Int.reduceSub, Int.reduceMul, Int.reduceNeg, Int.reducePow, Int.reduceEq, ↓reduceIte, Nat.reduceEqDiff, Nat.reduceAdd, Nat.reduceMul, Nat.reduceLeDiff, Nat.reduceSub, Nat.reduceLT, Int.reduceToNat, Int.reduceLT, Int.reduceLE, reduceCtorEq]))
  · skip
    try simp only [r46_0, r46_1, r46_2, r46_3, r46_4, r46_5, r46_6, r46_7, c46, F46, vb, vc, minI_two, maxI_two, go_sem, Int.reduceTMod, Int.reduceTDiv, Int.reduceDiv, Int.reduceMod, Int.reduceAdd, Int.reduceSub, Int.reduceMul, Int.reduceNeg, Int.reducePow, Int.reduceEq, ↓reduceIte, Nat.reduceEqDiff, Nat.reduceAdd, Nat.reduceMul, Nat.reduceLeDiff, Nat.reduceSub, Nat.reduceLT, Int.reduceToNat, Int.reduceLT, Int.reduceLE, reduceCtorEq]
    repeat' ((first | refine FK_split (fun h_ => ?_) (fun h_ => ?_) | refine GK_split (fun h_ => ?_) (fun h_ => ?_) | refine ite_both (fun h_ => ?_) (fun h_ => ?_)) <;> (try simp only [decide_eq_true_eq, decide_eq_false_iff_not, Bool.not_true, Bool.not_false, Bool.not_eq_true', Bool.not_eq_false', Bool.not_eq_eq_eq_not, Decidable.not_not] at h_) <;> (try simp only [r46_0, r46_1, r46_2, r46_3, r46_4, r46_5, r46_6, r46_7, c46, F46, vb, vc, minI_two, maxI_two, h_, go_sem, Int.reduceTMod, Int.reduceTDiv, Int.reduceDiv, Int.reduceMod, Int.reduceAdd, Int.reduceSub, Int.reduceMul, Int.reduceNeg, Int.reducePow, Int.reduceEq, ↓reduceIte, Nat.reduceEqDiff, Nat.reduceAdd, Nat.reduceMul, Nat.reduceLeDiff, Nat.reduceSub, Nat.reduceLT, Int.reduceToNat, Int.reduceLT, Int.reduceLE, reduceCtorEq]))
  · skip
    try simp only [r46_0, r46_1, r46_2, r46_3, r46_4, r46_5, r46_6, r46_7, c46, F46, vb, vc, minI_two, maxI_two, go_sem, Int.reduceTMod, Int.reduceTDiv, Int.reduceDiv, Int.reduceMod, Int.reduceAdd, Int.reduceSub, Int.reduceMul, Int.reduceNeg, Int.reducePow, Int.reduceEq, ↓reduceIte, Nat.reduceEqDiff, Nat.reduceAdd, Nat.reduceMul, Nat.reduceLeDiff, Nat.reduceSub, Nat.reduceLT, Int.reduceToNat, Int.reduceLT, Int.reduceLE, reduceCtorEq]
    repeat' ((first | refine FK_split (fun h_ => ?_) (fun h_ => ?_) | refine GK_split (fun h_ => ?_) (fun h_ => ?_) | refine ite_both (fun h_ => ?_) (fun h_ => ?_)) <;> (try simp only [decide_eq_true_eq, decide_eq_false_iff_not, Bool.not_true, Bool.not_false, Bool.not_eq_true', Bool.not_eq_false', Bool.not_eq_eq_eq_not, Decidable.not_not] at h_) <;> (try simp only [r46_0, r46_1, r46_2, r46_3, r46_4, r46_5, r46_6, r46_7, c46, F46, vb, vc, minI_two, maxI_two, h_, go_sem, Int.reduceTMod, Int.reduceTDiv, Int.reduceDiv, Int.reduceMod, Int.reduceAdd, Int.reduceSub, Int.reduceMul, Int.reduceNeg, Int.reducePow, Int.reduceEq, ↓reduceIte, Nat.reduceEqDiff, Nat.reduceAdd, Nat.reduceMul, Nat.reduceLeDiff, Nat.reduceSub, Nat.reduceLT, Int.reduceToNat, Int.reduceLT, Int.reduceLE, reduceCtorEq]))
theorem v_BHas (a b c d x y : Int) (m : Mem) (n : Nat) : callF TA 30 [.agg [I a, I b, I c, I d], .agg [I x, I y]] m n = some (RB ((Bx.mk a b c d).has ⟨x, y⟩)) := by
  refine callF_of (Fn_ofK (fn := F30) rfl (by simp [F30]) ?_)
  unfold Bx.has
  by_cases h1 : a ≤ x
  · by_cases h2 : x < c
    · by_cases h3 : b ≤ y
      · skip
        try simp only [r30_0, r30_1, c30, F30, h1, h2, h3, go_sem, Int.reduceTMod, Int.reduceTDiv, Int.reduceDiv, Int.reduceMod, Int.reduceAdd, Int.reduceSub, Int.reduceMul, Int.reduceNeg, Int.reducePow, Int.reduceEq, ↓reduceIte, Nat.reduceEqDiff, Nat.reduceAdd, Nat.reduceMul, Nat.reduceLeDiff, Nat.reduceSub, Nat.reduceLT, Int.reduceToNat, Int.reduceLT, Int.reduceLE, reduceCtorEq]
        repeat' ((first | refine FK_split (fun h_ => ?_) (fun h_ => ?_) | refine GK_split (fun h_ => ?_) (fun h_ => ?_) | refine ite_both (fun h_ => ?_) (fun h_ => ?_)) <;> (try simp only [decide_eq_true_eq, decide_eq_false_iff_not, Bool.not_true, Bool.not_false, Bool.not_eq_true', Bool.not_eq_false', Bool.not_eq_eq_eq_not, Decidable.not_not] at h_) <;> (try simp only [r30_0, r30_1, c30, F30, h1, h2, h3, h_, go_sem, Int.reduceTMod, Int.reduceTDiv, Int.reduceDiv, Int.reduceMod, Int.reduceAdd, Int.reduceSub, Int.reduceMul, Int.reduceNeg, Int.reducePow, Int.reduceEq, ↓reduceIte, Nat.reduceEqDiff, Nat.reduceAdd, Nat.reduceMul, Nat.reduceLeDiff, Nat.reduceSub, Nat.reduceLT, Int.reduceToNat, Int.reduceLT, Int.reduceLE, reduceCtorEq]))
      · skip
        try simp only [r30_0, r30_1, c30, F30, h1, h2, h3, go_sem, Int.reduceTMod, Int.reduceTDiv, Int.reduceDiv, Int.reduceMod, Int.reduceAdd, Int.reduceSub, Int.reduceMul, Int.reduceNeg, Int.reducePow, Int.reduceEq, ↓reduceIte, Nat.reduceEqDiff, Nat.reduceAdd, Nat.reduceMul, Nat.reduceLeDiff, Nat.reduceSub, Nat.reduceLT, Int.reduceToNat, Int.reduceLT, Int.reduceLE, reduceCtorEq]
        repeat' ((first | refine FK_split (fun h_ => ?_) (fun h_ => ?_) | refine GK_split (fun h_ => ?_) (fun h_ => ?_) | refine ite_both (fun h_ => ?_) (fun h_ => ?_)) <;> (try simp only [decide_eq_true_eq, decide_eq_false_iff_not, Bool.not_true, Bool.not_false, Bool.not_eq_true', Bool.not_eq_false', Bool.not_eq_eq_eq_not, Decidable.not_not] at h_) <;> (try simp only [r30_0, r30_1, c30, F30, h1, h2, h3, h_, go_sem, Int.reduceTMod, Int.reduceTDiv, Int.reduceDiv, Int.reduceMod, Int.reduceAdd, Int.reduceSub, Int.reduceMul, Int.reduceNeg, Int.reducePow, Int.reduceEq, ↓reduceIte, Nat.reduceEqDiff, Nat.reduceAdd, Nat.reduceMul, Nat.reduceLeDiff, Nat.reduceSub, Nat.reduceLT, Int.reduceToNat, Int.reduceLT, Int.reduceLE, reduceCtorEq]))
    · skip
      try simp only [r30_0, r30_1, c30, F30, h1, h2, go_sem, Int.reduceTMod, Int.reduceTDiv, Int.reduceDiv, Int.reduceMod, Int.reduceAdd, Int.reduceSub, Int.reduceMul, Int.reduceNeg, Int.reducePow, Int.reduceEq, ↓reduceIte, Nat.reduceEqDiff, Nat.reduceAdd, Nat.reduceMul, Nat.reduceLeDiff, Nat.reduceSub, Nat.reduceLT, Int.reduceToNat, Int.reduceLT, Int.reduceLE, reduceCtorEq]
      repeat' ((first | refine FK_split (fun h_ => ?_) (fun h_ => ?_) | refine GK_split (fun h_ => ?_) (fun h_ => ?_) | refine ite_both (fun h_ => ?_) (fun h_ => ?_)) <;> (try simp only [decide_eq_true_eq, decide_eq_false_iff_not, Bool.not_true, Bool.not_false, Bool.not_eq_true', Bool.not_eq_false', Bool.not_eq_eq_eq_not, Decidable.not_not] at h_) <;> (try simp only [r30_0, r30_1, c30, F30, h1, h2, h_, go_sem, Int.reduceTMod, Int.reduceTDiv, Int.reduceDiv, Int.reduceMod, Int.reduceAdd, Int.reduceSub, Int.reduceMul, Int.reduceNeg, Int.reducePow, Int.reduceEq, ↓reduceIte, Nat.reduceEqDiff, Nat.reduceAdd, Nat.reduceMul, Nat.reduceLeDiff, Nat.reduceSub, Nat.reduceLT, Int.reduceToNat, Int.reduceLT, Int.reduceLE, reduceCtorEq]))
  · skip
    try simp only [r30_0, r30_1, c30, F30, h1, go_sem, Int.reduceTMod, Int.reduceTDiv, Int.reduceDiv, Int.reduceMod, Int.reduceAdd, Int.reduceSub, Int.reduceMul, Int.reduceNeg, Int.reducePow, Int.reduceEq, ↓reduceIte, Nat.reduceEqDiff, Nat.reduceAdd, Nat.reduceMul, Nat.reduceLeDiff, Nat.reduceSub, Nat.reduceLT, Int.reduceToNat, Int.reduceLT, Int.reduceLE, reduceCtorEq]
    repeat' ((first | refine FK_split (fun h_ => ?_) (fun h_ => ?_) | refine GK_split (fun h_ => ?_) (fun h_ => ?_) | refine ite_both (fun h_ => ?_) (fun h_ => ?_)) <;> (try simp only [decide_eq_true_eq, decide_eq_false_iff_not, Bool.not_true, Bool.not_false, Bool.not_eq_true', Bool.not_eq_false', Bool.not_eq_eq_eq_not, Decidable.not_not] at h_) <;> (try simp only [r30_0, r30_1, c30, F30, h1, h_, go_sem, Int.reduceTMod, Int.reduceTDiv, Int.reduceDiv, Int.reduceMod, Int.reduceAdd, Int.reduceSub, Int.reduceMul, Int.reduceNeg, Int.reducePow, Int.reduceEq, ↓reduceIte, Nat.reduceEqDiff, Nat.reduceAdd, Nat.reduceMul, Nat.reduceLeDiff, Nat.reduceSub, Nat.reduceLT, Int.reduceToNat, Int.reduceLT, Int.reduceLE, reduceCtorEq]))
/-- The bound of points. -/
def bndL (l : List Pt) : Bx := l.foldl (fun b p => b.join ⟨p.x, p.y, p.x + 1, p.y + 1⟩) ⟨0, 0, 0, 0⟩
theorem bnd_spec (l : List Pt) (hl : l.all inP = true) : (l ≠ [] → (bndL l).emp = false) ∧ (∀ p ∈ l, ((bndL l).x0 ≤ p.x ∧ p.x < (bndL l).x1) ∧ (bndL l).y0 ≤ p.y ∧ p.y < (bndL l).y1) ∧
    ((-2147483648 ≤ (bndL l).x0 ∧ (bndL l).x1 ≤ 2147483649) ∧ -2147483648 ≤ (bndL l).y0 ∧ (bndL l).y1 ≤ 2147483649) := by
  suffices H : ∀ (k : List Pt), k.all inP = true → ∀ (b : Bx) (s : List Pt), ((s = [] → b = ⟨0, 0, 0, 0⟩) ∧ (s ≠ [] → b.emp = false) ∧ (∀ p ∈ s, (b.x0 ≤ p.x ∧ p.x < b.x1) ∧ b.y0 ≤ p.y ∧ p.y < b.y1) ∧ ((-2147483648 ≤ b.x0 ∧ b.x1 ≤ 2147483649) ∧ -2147483648 ≤ b.y0 ∧ b.y1 ≤ 2147483649)) →
      let r := k.foldl (fun b p => b.join ⟨p.x, p.y, p.x + 1, p.y + 1⟩) b
      (s ++ k ≠ [] → r.emp = false) ∧ (∀ p ∈ s ++ k, (r.x0 ≤ p.x ∧ p.x < r.x1) ∧ r.y0 ≤ p.y ∧ p.y < r.y1) ∧ ((-2147483648 ≤ r.x0 ∧ r.x1 ≤ 2147483649) ∧ -2147483648 ≤ r.y0 ∧ r.y1 ≤ 2147483649) by
    have := H l hl ⟨0, 0, 0, 0⟩ [] ⟨fun _ => rfl, fun h => absurd rfl h, fun p hp => (by cases hp), by simp⟩
    simpa [bndL] using this
  intro k
  induction k with
  | nil =>
    intro _ b s ⟨h1, h2, h3, h4⟩
    simp only [List.foldl_nil, List.append_nil]
    exact ⟨h2, h3, h4⟩
  | cons p k ih =>
    intro hk b s ⟨h1, h2, h3, h4⟩
    rw [List.all_cons, Bool.and_eq_true] at hk
    have ip : inP ⟨p.x, p.y⟩ = true := hk.1
    simp only [inP, Bool.and_eq_true, rm_iff] at ip
    have hu : (Bx.mk p.x p.y (p.x + 1) (p.y + 1)).emp = false := by
      unfold Bx.emp
      rw [Bool.or_eq_false_iff]
      exact ⟨decide_eq_false (by simp only; omega), decide_eq_false (by simp only; omega)⟩
    have key := ih hk.2 (b.join ⟨p.x, p.y, p.x + 1, p.y + 1⟩) (s ++ [p]) ?_
    · simp only [List.foldl_cons]
      rw [List.append_assoc] at key
      exact key
    · refine ⟨fun h => by simp at h, ?_⟩
      by_cases hs : s = []
      · have hb := h1 hs
        have he : b.emp = true := by rw [hb]; rfl
        have hj : b.join ⟨p.x, p.y, p.x + 1, p.y + 1⟩ = ⟨p.x, p.y, p.x + 1, p.y + 1⟩ := by
          unfold Bx.join
          rw [hu, he]
          simp
        rw [hj, hs]
        refine ⟨fun _ => hu, fun q hq => ?_, by simp only; omega⟩
        simp at hq
        subst hq
        simp only
        omega
      · have he := h2 hs
        have hj : b.join ⟨p.x, p.y, p.x + 1, p.y + 1⟩ = ⟨mnI b.x0 p.x, mnI b.y0 p.y, mxI b.x1 (p.x + 1), mxI b.y1 (p.y + 1)⟩ := by
          unfold Bx.join
          rw [hu, he]
          simp
        rw [hj]
        have m1 : mnI b.x0 p.x ≤ b.x0 ∧ mnI b.x0 p.x ≤ p.x ∧ (mnI b.x0 p.x = b.x0 ∨ mnI b.x0 p.x = p.x) := by unfold mnI; split <;> omega
        have m2 : mnI b.y0 p.y ≤ b.y0 ∧ mnI b.y0 p.y ≤ p.y ∧ (mnI b.y0 p.y = b.y0 ∨ mnI b.y0 p.y = p.y) := by unfold mnI; split <;> omega
        have m3 : b.x1 ≤ mxI b.x1 (p.x + 1) ∧ p.x + 1 ≤ mxI b.x1 (p.x + 1) ∧ (mxI b.x1 (p.x + 1) = b.x1 ∨ mxI b.x1 (p.x + 1) = p.x + 1) := by unfold mxI; split <;> omega
        have m4 : b.y1 ≤ mxI b.y1 (p.y + 1) ∧ p.y + 1 ≤ mxI b.y1 (p.y + 1) ∧ (mxI b.y1 (p.y + 1) = b.y1 ∨ mxI b.y1 (p.y + 1) = p.y + 1) := by unfold mxI; split <;> omega
        refine ⟨fun _ => ?_, fun q hq => ?_, by simp only; omega⟩
        · unfold Bx.emp
          rw [Bool.or_eq_false_iff]
          exact ⟨decide_eq_false (by simp only; omega), decide_eq_false (by simp only; omega)⟩
        · rw [List.mem_append, List.mem_singleton] at hq
          rcases hq with hq | rfl
          · have := h3 q hq
            simp only
            omega
          · simp only
            omega
theorem bnd_snoc (l : List Pt) (p : Pt) : bndL (l ++ [p]) = (bndL l).join ⟨p.x, p.y, p.x + 1, p.y + 1⟩ := by
  unfold bndL
  rw [List.foldl_append]
  rfl
theorem v_Bound (r : Reg) (l : List Pt) (m : Mem) (n : Nat) (hr : RPt m n r l) (hl : l.length < 4294967296) (hi : l.all inP = true) : callF TA 29 [r] m n = some (bndL l).r := by
  refine callF_of (Fn_ofK (fn := F29) rfl (by simp [F29]) ?_)
  have hlen := hr.len
  try simp only [r29_0, r29_1, r29_2, r29_3, r29_4, r29_5, r29_6, r29_7, c29, F29, hlen, go_sem, Int.reduceTMod, Int.reduceTDiv, Int.reduceDiv, Int.reduceMod, Int.reduceAdd, Int.reduceSub, Int.reduceMul, Int.reduceNeg, Int.reducePow, Int.reduceEq, ↓reduceIte, Nat.reduceEqDiff, Nat.reduceAdd, Nat.reduceMul, Nat.reduceLeDiff, Nat.reduceSub, Nat.reduceLT, Int.reduceToNat, Int.reduceLT, Int.reduceLE, reduceCtorEq]
  repeat' ((first | refine FK_split (fun h_ => ?_) (fun h_ => ?_) | refine GK_split (fun h_ => ?_) (fun h_ => ?_) | refine ite_both (fun h_ => ?_) (fun h_ => ?_)) <;> (try simp only [decide_eq_true_eq, decide_eq_false_iff_not, Bool.not_true, Bool.not_false, Bool.not_eq_true', Bool.not_eq_false', Bool.not_eq_eq_eq_not, Decidable.not_not] at h_) <;> (try simp only [r29_0, r29_1, r29_2, r29_3, r29_4, r29_5, r29_6, r29_7, c29, F29, hlen, h_, go_sem, Int.reduceTMod, Int.reduceTDiv, Int.reduceDiv, Int.reduceMod, Int.reduceAdd, Int.reduceSub, Int.reduceMul, Int.reduceNeg, Int.reducePow, Int.reduceEq, ↓reduceIte, Nat.reduceEqDiff, Nat.reduceAdd, Nat.reduceMul, Nat.reduceLeDiff, Nat.reduceSub, Nat.reduceLT, Int.reduceToNat, Int.reduceLT, Int.reduceLE, reduceCtorEq]))
  refine XK_iter (inv := fun i s => s.e 8 = RI i ∧ s.e 7 = RI l.length ∧ s.e 6 = r ∧ s.e 2 = .one (.ptr n 0) ∧ s.e 3 = .one (.ptr (n + 1) 0) ∧ n + 2 ≤ s.n ∧ (∀ id, id < n → s.m id = m id) ∧ s.m n = some ⟨[I 0, I 0, I 0, I 0], true⟩ ∧ s.m (n + 1) = some ⟨(bndL (l.take i)).cs, true⟩) l.length
    (fun L _ => ⟨fun i hi' s hs next => ?_, fun s hs => ?_⟩) 0 (by omega) _ ?_
  · obtain ⟨e, M, N⟩ := s
    obtain ⟨q8, q7, q6, q2, q3, qn, qm, qb, qx⟩ := hs
    simp only at q8 q7 q6 q2 q3 qn qm qb qx
    have hp : l[i]? = some l[i] := List.getElem?_eq_getElem hi'
    have hr2 : RPt M N r l := hr.keep (by omega) qm
    obtain ⟨id, off, cap, hr1, hid, hrd⟩ := hr2.at cs2 hp
    have ip : inP ⟨l[i].x, l[i].y⟩ = true := List.all_eq_true.1 hi _ (List.getElem_mem hi')
    have hsn : bndL (l.take (i + 1)) = _ := (congrArg bndL (take_snoc hp)).trans (bnd_snoc _ _)
    generalize l[i] = p at *
    simp only [inP, Bool.and_eq_true, rm_iff] at ip
    have c2 : ((i : Int) < (l.length : Int)) = True := eq_true (by omega)
    have c3 : (0 ≤ (i : Int)) = True := eq_true (by omega)
    have c7 : IntKind.i64.wrap ((i : Int) + 1) = ((i + 1 : Nat) : Int) := wr_nat (by omega)
    have w1 : IntKind.i64.wrap (p.x + 1) = p.x + 1 := wr_eq (by omega) (by omega)
    have w2 : IntKind.i64.wrap (p.y + 1) = p.y + 1 := wr_eq (by omega) (by omega)
    have vj := v_BJoin (bndL (l.take i)) ⟨p.x, p.y, p.x + 1, p.y + 1⟩
    rw [← hsn] at vj
    generalize bndL (l.take (i + 1)) = B1 at *
    generalize bndL (l.take i) = B0 at *
    rw [hr1] at q6
    have n1 := na_0 hid
    have n2 := na_0 (show n + 1 < N by omega)
    have n3 := na_0 (show n < N by omega)
    try simp only [r29_0, r29_1, r29_2, r29_3, r29_4, r29_5, r29_6, r29_7, c29, F29, l29_0, q8, q7, q6, q2, q3, c2, c3, c7, hrd, n1, n2, n3, w1, w2, qx, rd_of qx, vj, Int.toNat_natCast, go_sem, Int.reduceTMod, Int.reduceTDiv, Int.reduceDiv, Int.reduceMod, Int.reduceAdd, Int.reduceSub, Int.reduceMul, Int.reduceNeg, Int.reducePow, Int.reduceEq, ↓reduceIte, Nat.reduceEqDiff, Nat.reduceAdd, Nat.reduceMul, Nat.reduceLeDiff, Nat.reduceSub, Nat.reduceLT, Int.reduceToNat, Int.reduceLT, Int.reduceLE, reduceCtorEq]
    repeat' ((first | refine FK_split (fun h_ => ?_) (fun h_ => ?_) | refine GK_split (fun h_ => ?_) (fun h_ => ?_) | refine ite_both (fun h_ => ?_) (fun h_ => ?_)) <;> (try simp only [decide_eq_true_eq, decide_eq_false_iff_not, Bool.not_true, Bool.not_false, Bool.not_eq_true', Bool.not_eq_false', Bool.not_eq_eq_eq_not, Decidable.not_not] at h_) <;> (try simp only [r29_0, r29_1, r29_2, r29_3, r29_4, r29_5, r29_6, r29_7, c29, F29, l29_0, q8, q7, q6, q2, q3, c2, c3, c7, hrd, n1, n2, n3, w1, w2, qx, rd_of qx, vj, Int.toNat_natCast, h_, go_sem, Int.reduceTMod, Int.reduceTDiv, Int.reduceDiv, Int.reduceMod, Int.reduceAdd, Int.reduceSub, Int.reduceMul, Int.reduceNeg, Int.reducePow, Int.reduceEq, ↓reduceIte, Nat.reduceEqDiff, Nat.reduceAdd, Nat.reduceMul, Nat.reduceLeDiff, Nat.reduceSub, Nat.reduceLT, Int.reduceToNat, Int.reduceLT, Int.reduceLE, reduceCtorEq]))
    refine next _ ⟨?_, ?_, ?_, ?_, ?_, ?_, fun id hid => ?_, ?_, ?_⟩
    · simp only [go_sem, Int.reduceTMod, Int.reduceTDiv, Int.reduceDiv, Int.reduceMod, Int.reduceAdd, Int.reduceSub, Int.reduceMul, Int.reduceNeg, Int.reducePow, Int.reduceEq, ↓reduceIte, Nat.reduceEqDiff, Nat.reduceAdd, Nat.reduceMul, Nat.reduceLeDiff, Nat.reduceSub, Nat.reduceLT, Int.reduceToNat, Int.reduceLT, Int.reduceLE, reduceCtorEq]
    · simp only [q7, go_sem, Int.reduceTMod, Int.reduceTDiv, Int.reduceDiv, Int.reduceMod, Int.reduceAdd, Int.reduceSub, Int.reduceMul, Int.reduceNeg, Int.reducePow, Int.reduceEq, ↓reduceIte, Nat.reduceEqDiff, Nat.reduceAdd, Nat.reduceMul, Nat.reduceLeDiff, Nat.reduceSub, Nat.reduceLT, Int.reduceToNat, Int.reduceLT, Int.reduceLE, reduceCtorEq]
    · simp only [q6, hr1, go_sem, Int.reduceTMod, Int.reduceTDiv, Int.reduceDiv, Int.reduceMod, Int.reduceAdd, Int.reduceSub, Int.reduceMul, Int.reduceNeg, Int.reducePow, Int.reduceEq, ↓reduceIte, Nat.reduceEqDiff, Nat.reduceAdd, Nat.reduceMul, Nat.reduceLeDiff, Nat.reduceSub, Nat.reduceLT, Int.reduceToNat, Int.reduceLT, Int.reduceLE, reduceCtorEq]
    · simp only [q2, go_sem, Int.reduceTMod, Int.reduceTDiv, Int.reduceDiv, Int.reduceMod, Int.reduceAdd, Int.reduceSub, Int.reduceMul, Int.reduceNeg, Int.reducePow, Int.reduceEq, ↓reduceIte, Nat.reduceEqDiff, Nat.reduceAdd, Nat.reduceMul, Nat.reduceLeDiff, Nat.reduceSub, Nat.reduceLT, Int.reduceToNat, Int.reduceLT, Int.reduceLE, reduceCtorEq]
    · simp only [q3, go_sem, Int.reduceTMod, Int.reduceTDiv, Int.reduceDiv, Int.reduceMod, Int.reduceAdd, Int.reduceSub, Int.reduceMul, Int.reduceNeg, Int.reducePow, Int.reduceEq, ↓reduceIte, Nat.reduceEqDiff, Nat.reduceAdd, Nat.reduceMul, Nat.reduceLeDiff, Nat.reduceSub, Nat.reduceLT, Int.reduceToNat, Int.reduceLT, Int.reduceLE, reduceCtorEq]
    · simp only [go_sem, Int.reduceTMod, Int.reduceTDiv, Int.reduceDiv, Int.reduceMod, Int.reduceAdd, Int.reduceSub, Int.reduceMul, Int.reduceNeg, Int.reducePow, Int.reduceEq, ↓reduceIte, Nat.reduceEqDiff, Nat.reduceAdd, Nat.reduceMul, Nat.reduceLeDiff, Nat.reduceSub, Nat.reduceLT, Int.reduceToNat, Int.reduceLT, Int.reduceLE, reduceCtorEq]
      omega
    · simp only [na_0 (show id < N by omega), na_ne (show id < N by omega), go_sem, Int.reduceTMod, Int.reduceTDiv, Int.reduceDiv, Int.reduceMod, Int.reduceAdd, Int.reduceSub, Int.reduceMul, Int.reduceNeg, Int.reducePow, Int.reduceEq, ↓reduceIte, Nat.reduceEqDiff, Nat.reduceAdd, Nat.reduceMul, Nat.reduceLeDiff, Nat.reduceSub, Nat.reduceLT, Int.reduceToNat, Int.reduceLT, Int.reduceLE, reduceCtorEq]
      rw [if_neg (show ¬ id = n + 1 by omega)]
      exact qm id hid
    · simp only [qb, go_sem, Int.reduceTMod, Int.reduceTDiv, Int.reduceDiv, Int.reduceMod, Int.reduceAdd, Int.reduceSub, Int.reduceMul, Int.reduceNeg, Int.reducePow, Int.reduceEq, ↓reduceIte, Nat.reduceEqDiff, Nat.reduceAdd, Nat.reduceMul, Nat.reduceLeDiff, Nat.reduceSub, Nat.reduceLT, Int.reduceToNat, Int.reduceLT, Int.reduceLE, reduceCtorEq]
      rw [if_neg (show ¬ n = N by omega), if_neg (show ¬ n = N by omega)]
    · simp only [go_sem, Int.reduceTMod, Int.reduceTDiv, Int.reduceDiv, Int.reduceMod, Int.reduceAdd, Int.reduceSub, Int.reduceMul, Int.reduceNeg, Int.reducePow, Int.reduceEq, ↓reduceIte, Nat.reduceEqDiff, Nat.reduceAdd, Nat.reduceMul, Nat.reduceLeDiff, Nat.reduceSub, Nat.reduceLT, Int.reduceToNat, Int.reduceLT, Int.reduceLE, reduceCtorEq]
  · obtain ⟨e, M, N⟩ := s
    obtain ⟨q8, q7, q6, q2, q3, qn, qm, qb, qx⟩ := hs
    simp only at q8 q7 q6 q2 q3 qn qm qb qx
    have c2 : ((l.length : Int) < (l.length : Int)) = False := eq_false (by omega)
    rw [List.take_length] at qx
    try simp only [r29_0, r29_1, r29_2, r29_3, r29_4, r29_5, r29_6, r29_7, c29, F29, l29_0, q8, q7, q6, q2, q3, c2, qx, rd_of qx, qb, go_sem, Int.reduceTMod, Int.reduceTDiv, Int.reduceDiv, Int.reduceMod, Int.reduceAdd, Int.reduceSub, Int.reduceMul, Int.reduceNeg, Int.reducePow, Int.reduceEq, ↓reduceIte, Nat.reduceEqDiff, Nat.reduceAdd, Nat.reduceMul, Nat.reduceLeDiff, Nat.reduceSub, Nat.reduceLT, Int.reduceToNat, Int.reduceLT, Int.reduceLE, reduceCtorEq]
    repeat' ((first | refine FK_split (fun h_ => ?_) (fun h_ => ?_) | refine GK_split (fun h_ => ?_) (fun h_ => ?_) | refine ite_both (fun h_ => ?_) (fun h_ => ?_)) <;> (try simp only [decide_eq_true_eq, decide_eq_false_iff_not, Bool.not_true, Bool.not_false, Bool.not_eq_true', Bool.not_eq_false', Bool.not_eq_eq_eq_not, Decidable.not_not] at h_) <;> (try simp only [r29_0, r29_1, r29_2, r29_3, r29_4, r29_5, r29_6, r29_7, c29, F29, l29_0, q8, q7, q6, q2, q3, c2, qx, rd_of qx, qb, h_, go_sem, Int.reduceTMod, Int.reduceTDiv, Int.reduceDiv, Int.reduceMod, Int.reduceAdd, Int.reduceSub, Int.reduceMul, Int.reduceNeg, Int.reducePow, Int.reduceEq, ↓reduceIte, Nat.reduceEqDiff, Nat.reduceAdd, Nat.reduceMul, Nat.reduceLeDiff, Nat.reduceSub, Nat.reduceLT, Int.reduceToNat, Int.reduceLT, Int.reduceLE, reduceCtorEq]))
  · simp only [List.take_zero, go_sem, Int.reduceTMod, Int.reduceTDiv, Int.reduceDiv, Int.reduceMod, Int.reduceAdd, Int.reduceSub, Int.reduceMul, Int.reduceNeg, Int.reducePow, Int.reduceEq, ↓reduceIte, Nat.reduceEqDiff, Nat.reduceAdd, Nat.reduceMul, Nat.reduceLeDiff, Nat.reduceSub, Nat.reduceLT, Int.reduceToNat, Int.reduceLT, Int.reduceLE, reduceCtorEq]
    refine ⟨by omega, fun id hid => ?_, rfl⟩
    rw [if_neg (show ¬ id = n + 1 by omega), if_neg (show ¬ id = n by omega)]

/- What Dash hands back, for the laws; where a pattern draws. Conditions: those that each theorem names. -/
open Go Go.Proofs
set_option linter.unusedSimpArgs false
set_option linter.unusedVariables false

/-- A row of subpaths, read. -/
def RowS (base : Nat) (m : Mem) (n : Nat) (x : Reg) (ls : List (List Pt)) : Prop :=
  (x = rnil ∧ ls = []) ∨ ∃ id cap b, x = .one (.sl id 0 ls.length cap 2) ∧ base ≤ id ∧ id < n ∧ m id = some b ∧ ∀ (i : Nat) (l : List Pt), ls[i]? = some l → ∃ c fl, rd m id (0 + i * 2) 2 = some [c, .sc (.bool fl)] ∧ b.cells[i * 2]? = some c ∧ RPt m n (.one c) l ∧ ∀ j, sid (.one c) = some j → base ≤ j
theorem RowS.len {base : Nat} {m : Mem} {n : Nat} {x : Reg} {ls : List (List Pt)} (h : RowS base m n x ls) : lenO x = some (ls.length : Int) := by
  rcases h with ⟨rfl, rfl⟩ | ⟨id, cap, b, rfl, _⟩ <;> rfl
theorem RowS.keep {base : Nat} {m m' : Mem} {n n' : Nat} {x : Reg} {ls : List (List Pt)} (h : RowS base m n x ls) (hn : n ≤ n') (hm : ∀ id, base ≤ id → id < n → m' id = m id) : RowS base m' n' x ls := by
  rcases h with h | ⟨id, cap, b, e1, e2, e3, e4, e5⟩
  · exact Or.inl h
  · refine Or.inr ⟨id, cap, b, e1, e2, by omega, by rw [hm id e2 e3]; exact e4, fun i l hi => ?_⟩
    obtain ⟨c, fl, k1, k2, k3, k4⟩ := e5 i l hi
    exact ⟨c, fl, by rw [← k1]; unfold rd; rw [hm id e2 e3], k2, k3.keep' hn (fun j hj => hm j (k4 j hj) (k3.lt hj)), k4⟩
theorem OSb.rows {A : Nat → Prop} {pid base : Nat} {m : Mem} {n : Nat} {oc : Cell} {ls : List (List Pt)} (h : OSb A pid m n oc ls) (hb : base ≤ pid) : RowS base m n (.one oc) ls := by
  obtain ⟨cs, h1, h2, h3, h4⟩ := h
  rcases h1 with ⟨e1, e2⟩ | ⟨id, e1, e2, e3, e4⟩
  · subst e2
    exact Or.inl ⟨e1, List.length_eq_zero_iff.1 (by simpa using h3.symm)⟩
  · refine Or.inr ⟨id, none, _, by rw [← h3]; exact e1, by omega, e3, e4, fun i l hi => ?_⟩
    obtain ⟨c, k1, k2, k3⟩ := h4 i l hi
    have hrl : RL encS 2 m n (.one oc) cs := OL.rl sc2 (Or.inr ⟨id, e1, e2, e3, e4⟩)
    obtain ⟨id', off, cap', q1, q2, q3⟩ := hrl.at sc2 k1
    rw [e1] at q1
    simp only [Reg.one.injEq, Cell.sl.injEq, true_and, and_true] at q1
    obtain ⟨rfl, rfl, rfl⟩ := q1
    obtain ⟨b, q4, q5⟩ := rd_cell q3 (a := 0) (c := c) rfl
    rw [e4] at q4
    cases q4
    rw [Nat.zero_add, Nat.add_zero] at q5
    exact ⟨c, false, q3, q5, k2.rl, fun j hj => by have := (k2.lt hj).1; omega⟩

/-- What holds if Dash has no error. -/
theorem dash_zero {l : List Pt} {c : Bool} {pat : List Int} {ph : Int} {n : Nat} {x : Reg} {m' : Mem} {n' : Nat} (h : DashQ l (wayL l c) c pat ph n x 0 m' n') (hl : l.length ≤ 900000) :
    l.all inP = true ∧ ∃ ls, RowS n m' n' x ls ∧ (∀ u ∈ ls, (u ≠ [] ∨ l = []) ∧ ∀ p ∈ u, ((bndL l).x0 ≤ p.x ∧ p.x < (bndL l).x1) ∧ (bndL l).y0 ≤ p.y ∧ p.y < (bndL l).y1) ∧ (∀ p t, l = p :: t → pat ≠ [] → (phS pat ph).1 % 2 = 0 → HdL p ls) ∧ ls.length ≤ 4096 ∧ (∀ u ∈ ls, u.length < 4294967296) ∧ (l = [] → ls = []) ∧ (pat ≠ [] → PatI pat ∧ 0 ≤ ph ∧ ph ≤ 8388608) := by
  cases hr : rightB pat ph
  · have := (h.bad (Or.inl hr)).2; cases this
  · cases hi : l.all inP
    · have := (h.bad (Or.inr hi)).2; cases this
    · refine ⟨rfl, ?_⟩
      obtain ⟨_, hbx, _⟩ := bnd_spec l hi
      have hpp : pat ≠ [] → PatI pat ∧ 0 ≤ ph ∧ ph ≤ 8388608 := fun hne => right_pat hr hne
      cases hg : anyLg (wayL l c) (wayL l c).length
      · by_cases hw : wayL l c = []
        · have hle : l = [] := by
            cases l with
            | nil => rfl
            | cons p t => obtain ⟨t', ht'⟩ := way_head (p := p) (l := t) (c := c); rw [ht'] at hw; cases hw
          obtain ⟨rfl, _⟩ := h.none hr hi hg hw
          exact ⟨[], Or.inl ⟨rfl, rfl⟩, fun u hu => (by cases hu), fun p t e => (by rw [hle] at e; cases e), by simp, fun u hu => (by cases hu), fun _ => rfl, hpp⟩
        · have hlne : l ≠ [] := fun e => hw (by rw [e]; unfold wayL; split <;> rfl)
          by_cases hpe : pat = []
          · obtain ⟨_, id, cl, rfl, q1, q2, q3, q4, q5⟩ := h.whole hr hi hg hw hpe
            refine ⟨[l], Or.inr ⟨id, some 1, _, rfl, q1, q2, q3, fun i u hu => ?_⟩, fun u hu => ?_, fun p t e h2 => absurd hpe h2, by simp, fun u hu => ?_, fun e => absurd e hlne, hpp⟩
            · cases i with
              | zero =>
                simp at hu
                subst hu
                refine ⟨cl, c, ?_, rfl, q4, q5⟩
                rw [rd_of q3]
                rfl
              | succ i => simp at hu
            · simp at hu
              subst hu
              exact ⟨Or.inl hlne, hbx⟩
            · simp at hu
              subst hu
              omega
          · obtain ⟨hP, hp0, hp1⟩ := hpp hpe
            have hwm := way_len l c
            cases hd : dashL pat ph (wayL l c) with
            | none => have := (h.many hr hi hg hw hpe hd).2; cases this
            | some ls =>
              obtain ⟨_, oc, pid, rfl, q1, q2⟩ := h.some hr hi hg hw hpe ls hd
              have hwp : ∀ p ∈ wayL l c, ((bndL l).x0 ≤ p.x ∧ p.x < (bndL l).x1) ∧ (bndL l).y0 ≤ p.y ∧ p.y < (bndL l).y1 := fun p hp => hbx p (way_mem hp)
              have hline : ∀ i a b, (wayL l c)[i]? = some a → (wayL l c)[i + 1]? = some b → 0 ≤ lenQ a b ∧ (∀ t, 0 ≤ t → t ≤ lenQ a b → 0 < lenQ a b → (fun p : Pt => ((bndL l).x0 ≤ p.x ∧ p.x < (bndL l).x1) ∧ (bndL l).y0 ≤ p.y ∧ p.y < (bndL l).y1) (placeP a.x a.y b.x b.y t (lenQ a b))) ∧ (fun p : Pt => ((bndL l).x0 ≤ p.x ∧ p.x < (bndL l).x1) ∧ (bndL l).y0 ≤ p.y ∧ p.y < (bndL l).y1) b := fun i a b ha hb => by
                have hlg := lg_at hg ha hb
                have ha' := hwp a (List.mem_of_getElem? ha)
                have hb' := hwp b (List.mem_of_getElem? hb)
                exact ⟨(lenQ_bd hlg).1, fun t h1 h2 h3 => place_box hlg h1 h2 h3 ha' hb', hb'⟩
              obtain ⟨g1, g2, g3⟩ := dashL_J (P := fun p => ((bndL l).x0 ≤ p.x ∧ p.x < (bndL l).x1) ∧ (bndL l).y0 ≤ p.y ∧ p.y < (bndL l).y1) (J := GoodL fun p => ((bndL l).x0 ≤ p.x ∧ p.x < (bndL l).x1) ∧ (bndL l).y0 ≤ p.y ∧ p.y < (bndL l).y1) good_add good_new hP hp0 (by
                unfold pen0
                simp only
                split
                · intro u hu
                  rw [List.mem_map] at hu
                  obtain ⟨q, hq, rfl⟩ := hu
                  exact ⟨by simp, fun r hr => by rw [List.mem_singleton] at hr; rw [hr]; exact hwp q (List.mem_of_mem_take hq)⟩
                · intro u hu; cases hu) hw hline hd
              refine ⟨ls, q2.rows q1, fun u hu => ⟨Or.inl (g1 u hu).1, (g1 u hu).2⟩, fun p t e h2 h3 => ?_, g2, fun u hu => by rcases g3 u hu with q | q <;> omega, fun e => absurd e hlne, hpp⟩
              have hline2 : ∀ i a b, (wayL l c)[i]? = some a → (wayL l c)[i + 1]? = some b → 0 ≤ lenQ a b ∧ (∀ t, 0 ≤ t → t ≤ lenQ a b → 0 < lenQ a b → (fun _ : Pt => True) (placeP a.x a.y b.x b.y t (lenQ a b))) ∧ (fun _ : Pt => True) b := fun i a b ha hb => ⟨(hline i a b ha hb).1, fun _ _ _ _ => trivial, trivial⟩
              refine (dashL_J (P := fun _ => True) (J := HdL p) hd_add hd_new hP hp0 ?_ hw hline2 hd).1
              unfold pen0
              simp only
              rw [if_pos h3]
              obtain ⟨t', ht'⟩ := way_head (p := p) (l := t) (c := c)
              rw [e, ht']
              exact ⟨[], [], rfl⟩
      · have := (h.long hr hi hg).2; cases this

/- Patterns walked (chapter 09): the program's; the law DashChecks. Conditions: those that each theorem names. -/
open Go Go.Proofs
set_option linter.unusedSimpArgs false
set_option linter.unusedVariables false

theorem v_awake09 : callF TA 9 [] (fun _ => none) 0 = some (RB true) := callF_closed (k := 60) (by kernel_rfl)

theorem right_ok {l : List Int} {ph : Int} (h : rightB l ph = true) : l.all okD = true ∧ l.length ≤ 8 := by
  unfold rightB at h
  split at h
  · rename_i e; subst e; exact ⟨rfl, by simp⟩
  · split at h
    · rename_i e2
      simp only [Bool.and_eq_true] at h
      exact ⟨h.1, by omega⟩
    · cases h
theorem law3 (c : Cell) (l : List Int) (ph : Int) (m : Mem) (n : Nat) (hr : RIn m n (.one c) l) : Fn TA 3 [.agg [c, I ph]] m n (fun r _ _ => r = RB true) := by
  refine Fn_ofK (fn := F3) rfl (by simp [F3]) ?_
  have hlen := hr.len
  have hr2 : RIn (upd m n (some ⟨[c, I ph], true⟩)) (n + 1) (.one c) l := hr.keep (by omega) (fun id hid => upd_ne _ _ (by omega))
  by_cases g : 100 < (l.length : Int)
  · skip
    try simp only [r3_0, r3_1, r3_2, r3_3, r3_4, r3_5, r3_6, r3_7, r3_8, r3_9, r3_10, r3_11, c3, F3, hlen, g, v_awake09, go_sem, Int.reduceTMod, Int.reduceTDiv, Int.reduceDiv, Int.reduceMod, Int.reduceAdd, Int.reduceSub, Int.reduceMul, Int.reduceNeg, Int.reducePow, Int.reduceEq, ↓reduceIte, Nat.reduceEqDiff, Nat.reduceAdd, Nat.reduceMul, Nat.reduceLeDiff, Nat.reduceSub, Nat.reduceLT, Int.reduceToNat, Int.reduceLT, Int.reduceLE, reduceCtorEq]
    repeat' ((first | refine FK_split (fun h_ => ?_) (fun h_ => ?_) | refine GK_split (fun h_ => ?_) (fun h_ => ?_) | refine ite_both (fun h_ => ?_) (fun h_ => ?_)) <;> (try simp only [decide_eq_true_eq, decide_eq_false_iff_not, Bool.not_true, Bool.not_false, Bool.not_eq_true', Bool.not_eq_false', Bool.not_eq_eq_eq_not, Decidable.not_not] at h_) <;> (try simp only [r3_0, r3_1, r3_2, r3_3, r3_4, r3_5, r3_6, r3_7, r3_8, r3_9, r3_10, r3_11, c3, F3, hlen, g, v_awake09, h_, go_sem, Int.reduceTMod, Int.reduceTDiv, Int.reduceDiv, Int.reduceMod, Int.reduceAdd, Int.reduceSub, Int.reduceMul, Int.reduceNeg, Int.reducePow, Int.reduceEq, ↓reduceIte, Nat.reduceEqDiff, Nat.reduceAdd, Nat.reduceMul, Nat.reduceLeDiff, Nat.reduceSub, Nat.reduceLT, Int.reduceToNat, Int.reduceLT, Int.reduceLE, reduceCtorEq]))
  · have hR := v_Right _ l ph _ _ hr2.frz (by omega)
    have hC := v_Check c l ph _ _ hr2.frz (by omega)
    cases hb : rightB l ph with
    | false =>
      rw [hb, if_neg (by simp)] at hC
      try simp only [r3_0, r3_1, r3_2, r3_3, r3_4, r3_5, r3_6, r3_7, r3_8, r3_9, r3_10, r3_11, c3, F3, hlen, g, hR, hC, hb, v_awake09, go_sem, Int.reduceTMod, Int.reduceTDiv, Int.reduceDiv, Int.reduceMod, Int.reduceAdd, Int.reduceSub, Int.reduceMul, Int.reduceNeg, Int.reducePow, Int.reduceEq, ↓reduceIte, Nat.reduceEqDiff, Nat.reduceAdd, Nat.reduceMul, Nat.reduceLeDiff, Nat.reduceSub, Nat.reduceLT, Int.reduceToNat, Int.reduceLT, Int.reduceLE, reduceCtorEq]
      repeat' ((first | refine FK_split (fun h_ => ?_) (fun h_ => ?_) | refine GK_split (fun h_ => ?_) (fun h_ => ?_) | refine ite_both (fun h_ => ?_) (fun h_ => ?_)) <;> (try simp only [decide_eq_true_eq, decide_eq_false_iff_not, Bool.not_true, Bool.not_false, Bool.not_eq_true', Bool.not_eq_false', Bool.not_eq_eq_eq_not, Decidable.not_not] at h_) <;> (try simp only [r3_0, r3_1, r3_2, r3_3, r3_4, r3_5, r3_6, r3_7, r3_8, r3_9, r3_10, r3_11, c3, F3, hlen, g, hR, hC, hb, v_awake09, h_, go_sem, Int.reduceTMod, Int.reduceTDiv, Int.reduceDiv, Int.reduceMod, Int.reduceAdd, Int.reduceSub, Int.reduceMul, Int.reduceNeg, Int.reducePow, Int.reduceEq, ↓reduceIte, Nat.reduceEqDiff, Nat.reduceAdd, Nat.reduceMul, Nat.reduceLeDiff, Nat.reduceSub, Nat.reduceLT, Int.reduceToNat, Int.reduceLT, Int.reduceLE, reduceCtorEq]))
    | true =>
      rw [hb, if_pos rfl] at hC
      obtain ⟨hk, h8⟩ := right_ok hb
      try simp only [r3_0, r3_1, r3_2, r3_3, r3_4, r3_5, r3_6, r3_7, r3_8, r3_9, r3_10, r3_11, c3, F3, hlen, g, hR, hb, go_sem, Int.reduceTMod, Int.reduceTDiv, Int.reduceDiv, Int.reduceMod, Int.reduceAdd, Int.reduceSub, Int.reduceMul, Int.reduceNeg, Int.reducePow, Int.reduceEq, ↓reduceIte, Nat.reduceEqDiff, Nat.reduceAdd, Nat.reduceMul, Nat.reduceLeDiff, Nat.reduceSub, Nat.reduceLT, Int.reduceToNat, Int.reduceLT, Int.reduceLE, reduceCtorEq]
      repeat' ((first | refine FK_split (fun h_ => ?_) (fun h_ => ?_) | refine GK_split (fun h_ => ?_) (fun h_ => ?_) | refine ite_both (fun h_ => ?_) (fun h_ => ?_)) <;> (try simp only [decide_eq_true_eq, decide_eq_false_iff_not, Bool.not_true, Bool.not_false, Bool.not_eq_true', Bool.not_eq_false', Bool.not_eq_eq_eq_not, Decidable.not_not] at h_) <;> (try simp only [r3_0, r3_1, r3_2, r3_3, r3_4, r3_5, r3_6, r3_7, r3_8, r3_9, r3_10, r3_11, c3, F3, hlen, g, hR, hb, h_, go_sem, Int.reduceTMod, Int.reduceTDiv, Int.reduceDiv, Int.reduceMod, Int.reduceAdd, Int.reduceSub, Int.reduceMul, Int.reduceNeg, Int.reducePow, Int.reduceEq, ↓reduceIte, Nat.reduceEqDiff, Nat.reduceAdd, Nat.reduceMul, Nat.reduceLeDiff, Nat.reduceSub, Nat.reduceLT, Int.reduceToNat, Int.reduceLT, Int.reduceLE, reduceCtorEq]))
      refine XK_iter (inv := fun i s => s.e 26 = RI i ∧ s.e 25 = RI l.length ∧ s.e 24 = .one c ∧ s.e 3 = RI (l.take i).sum ∧ s.e 1 = .one (.ptr n 0) ∧ s.m = upd m n (some ⟨[c, I ph], true⟩) ∧ s.n = n + 1) l.length
        (fun L _ => ⟨fun i hi s hs next => ?_, fun s hs => ?_⟩) 0 (by omega) _ ?_
      · obtain ⟨q9, q8, q7, q3, q1, qm, qn⟩ := hs
        have hx : l[i]? = some l[i] := List.getElem?_eq_getElem hi
        obtain ⟨id, off, cap, b, hr1, hid, hb, hc⟩ := RL.int hr2 hx
        generalize l[i] = x at *
        have c2 : ((i : Int) < (l.length : Int)) = True := eq_true (by omega)
        have c3 : (0 ≤ (i : Int)) = True := eq_true (by omega)
        have c7 : IntKind.i64.wrap ((i : Int) + 1) = ((i + 1 : Nat) : Int) := wr_nat (by omega)
        have hs1 := sum_snoc hx
        have hxk : okD x = true := List.all_eq_true.1 hk x (List.mem_of_getElem? hx)
        have hxk' := okD_iff.1 hxk
        have sb := sum_bd (l.take i) (List.all_eq_true.2 fun y hy => List.all_eq_true.1 hk y (List.mem_of_mem_take hy))
        have hlt : (l.take i).length ≤ 8 := by rw [List.length_take]; omega
        have w : IntKind.i64.wrap ((l.take i).sum + x) = (l.take i).sum + x := wr_eq (by omega) (by omega)
        have hb' : s.m id = some b := by rw [qm]; exact hb
        rw [hr1] at q7
        try simp only [r3_0, r3_1, r3_2, r3_3, r3_4, r3_5, r3_6, r3_7, r3_8, r3_9, r3_10, r3_11, c3, F3, l3_0, q9, q8, q7, q3, q1, c2, c3, c7, hb', hc, w, Int.toNat_natCast, Nat.mul_one, go_sem, Int.reduceTMod, Int.reduceTDiv, Int.reduceDiv, Int.reduceMod, Int.reduceAdd, Int.reduceSub, Int.reduceMul, Int.reduceNeg, Int.reducePow, Int.reduceEq, ↓reduceIte, Nat.reduceEqDiff, Nat.reduceAdd, Nat.reduceMul, Nat.reduceLeDiff, Nat.reduceSub, Nat.reduceLT, Int.reduceToNat, Int.reduceLT, Int.reduceLE, reduceCtorEq]
        repeat' ((first | refine FK_split (fun h_ => ?_) (fun h_ => ?_) | refine GK_split (fun h_ => ?_) (fun h_ => ?_) | refine ite_both (fun h_ => ?_) (fun h_ => ?_)) <;> (try simp only [decide_eq_true_eq, decide_eq_false_iff_not, Bool.not_true, Bool.not_false, Bool.not_eq_true', Bool.not_eq_false', Bool.not_eq_eq_eq_not, Decidable.not_not] at h_) <;> (try simp only [r3_0, r3_1, r3_2, r3_3, r3_4, r3_5, r3_6, r3_7, r3_8, r3_9, r3_10, r3_11, c3, F3, l3_0, q9, q8, q7, q3, q1, c2, c3, c7, hb', hc, w, Int.toNat_natCast, Nat.mul_one, h_, go_sem, Int.reduceTMod, Int.reduceTDiv, Int.reduceDiv, Int.reduceMod, Int.reduceAdd, Int.reduceSub, Int.reduceMul, Int.reduceNeg, Int.reducePow, Int.reduceEq, ↓reduceIte, Nat.reduceEqDiff, Nat.reduceAdd, Nat.reduceMul, Nat.reduceLeDiff, Nat.reduceSub, Nat.reduceLT, Int.reduceToNat, Int.reduceLT, Int.reduceLE, reduceCtorEq]))
        refine next _ ⟨?_, ?_, ?_, ?_, ?_, ?_, ?_⟩
        all_goals simp only [q9, q8, q7, q3, q1, qm, qn, hr1, hs1, go_sem, Int.reduceTMod, Int.reduceTDiv, Int.reduceDiv, Int.reduceMod, Int.reduceAdd, Int.reduceSub, Int.reduceMul, Int.reduceNeg, Int.reducePow, Int.reduceEq, ↓reduceIte, Nat.reduceEqDiff, Nat.reduceAdd, Nat.reduceMul, Nat.reduceLeDiff, Nat.reduceSub, Nat.reduceLT, Int.reduceToNat, Int.reduceLT, Int.reduceLE, reduceCtorEq]
      · obtain ⟨q9, q8, q7, q3, q1, qm, qn⟩ := hs
        have c2 : ((l.length : Int) < (l.length : Int)) = False := eq_false (by omega)
        rw [List.take_length] at q3
        have hs := v_Sum c l ph _ _ hr2.frz hk (by omega)
        have hbn : s.m n = some ⟨[c, I ph], true⟩ := by rw [qm]; exact upd_same _ _ _
        rw [← qm] at hs hC
        try simp only [r3_0, r3_1, r3_2, r3_3, r3_4, r3_5, r3_6, r3_7, r3_8, r3_9, r3_10, r3_11, c3, F3, l3_0, q9, q8, q7, q3, q1, qn, hbn, rd_of hbn, hs, hC, c2, v_awake09, go_sem, Int.reduceTMod, Int.reduceTDiv, Int.reduceDiv, Int.reduceMod, Int.reduceAdd, Int.reduceSub, Int.reduceMul, Int.reduceNeg, Int.reducePow, Int.reduceEq, ↓reduceIte, Nat.reduceEqDiff, Nat.reduceAdd, Nat.reduceMul, Nat.reduceLeDiff, Nat.reduceSub, Nat.reduceLT, Int.reduceToNat, Int.reduceLT, Int.reduceLE, reduceCtorEq]
        repeat' ((first | refine FK_split (fun h_ => ?_) (fun h_ => ?_) | refine GK_split (fun h_ => ?_) (fun h_ => ?_) | refine ite_both (fun h_ => ?_) (fun h_ => ?_)) <;> (try simp only [decide_eq_true_eq, decide_eq_false_iff_not, Bool.not_true, Bool.not_false, Bool.not_eq_true', Bool.not_eq_false', Bool.not_eq_eq_eq_not, Decidable.not_not] at h_) <;> (try simp only [r3_0, r3_1, r3_2, r3_3, r3_4, r3_5, r3_6, r3_7, r3_8, r3_9, r3_10, r3_11, c3, F3, l3_0, q9, q8, q7, q3, q1, qn, hbn, rd_of hbn, hs, hC, c2, v_awake09, h_, go_sem, Int.reduceTMod, Int.reduceTDiv, Int.reduceDiv, Int.reduceMod, Int.reduceAdd, Int.reduceSub, Int.reduceMul, Int.reduceNeg, Int.reducePow, Int.reduceEq, ↓reduceIte, Nat.reduceEqDiff, Nat.reduceAdd, Nat.reduceMul, Nat.reduceLeDiff, Nat.reduceSub, Nat.reduceLT, Int.reduceToNat, Int.reduceLT, Int.reduceLE, reduceCtorEq]))
      · simp only [List.take_zero, List.sum_nil, go_sem, Int.reduceTMod, Int.reduceTDiv, Int.reduceDiv, Int.reduceMod, Int.reduceAdd, Int.reduceSub, Int.reduceMul, Int.reduceNeg, Int.reducePow, Int.reduceEq, ↓reduceIte, Nat.reduceEqDiff, Nat.reduceAdd, Nat.reduceMul, Nat.reduceLeDiff, Nat.reduceSub, Nat.reduceLT, Int.reduceToNat, Int.reduceLT, Int.reduceLE, reduceCtorEq]

end Go.Proofs.Ytoakdmjpbachdaa.Sy
