import Derived.Test.YtoakdmjpbachdaaMgF
/- A pen that goes along a line walked. Conditions: those that each theorem names. -/
namespace Go.Proofs.Ytoakdmjpbachdaa.Sy
open Go Go.Proofs
set_option linter.unusedSimpArgs false
set_option linter.unusedVariables false
set_option maxRecDepth 20000
attribute [local go_sem] XK_seq XK_block XK_skip XK_exit XK_ret XK_cond XK_reg XK_dreg XK_ureg KN_seq KN_blk KN_lp KN_chk KN_chku KN_top KN_fin KX_seq KX_lp KX_blk KX_chk KX_top KR_seq KR_blk KR_lp KR_chk KR_top KR_fin FK_true FK_false RK_nil RK_mv RK_pick RK_alloc RK_box RK_build RK_bslice RK_load1 RK_loadA RK_store RK_nilchk RK_bin RK_beq RK_eqv RK_eqnil RK_un RK_conv RK_mkfn RK_mkslice RK_slS RK_slA RK_fadr RK_fld RK_iadrA RK_iadrS RK_idxA RK_ext RK_lenC RK_cap RK_app RK_cpy RK_mn RK_mx RK_len RK_carry RK_clr carryR um0 um1 ThenK_some RK_guard GK_tt GK_ff GK_tf GK_ft GK_none QK_some RK_callQ RK_callZ VK_clo RK_callV
  evalOp evO evOs upd_at unfrz_at putE_some putE_none boolOf_b boolOf_tup Option.map_some evRes pack_one pack_two pack_three pack_none List.getD_cons_zero List.getD_cons_succ getD_nil
  Option.some.injEq exists_eq_left' Reg.cs? fillC setL List.set_cons_zero List.set_cons_succ List.length_cons List.length_nil rd_upd rd_updn rdB wr List.drop_zero List.drop_succ_cons List.take_succ_cons List.take_zero List.getElem?_cons_zero List.getElem?_cons_succ
  ix Int.toNat_zero lenO_sl lenO_nil nadd na_eq na_eq' na_lt na_ee na_ll na_ne na_ne' na_tt
attribute [local go_sem] Reg.flat_one Reg.flat_agg Reg.flat_tup flats_nil flats_cons Cell.flat_sc Cell.flat_ptr List.all_cons List.all_nil disOk safeOk safeR decide_eq_true_eq decide_eq_false_iff_not
  List.map_cons List.map_nil List.cons_append List.nil_append List.append_nil evalOp.capsOf Bool.false_bne Bool.bne_false Bool.true_bne Bool.bne_true bne_self_eq_false beq_self_eq_true Bool.not_not Bool.false_and Bool.and_false Bool.true_or Bool.or_true beq_iff_eq eqCells
  Bool.true_beq Bool.false_beq Bool.not_eq_true' Bool.not_eq_eq_eq_not Bool.not_eq_false' and_false false_and frz_at idOf Option.isSome_some Bool.and_eq_true
attribute [local go_sem] wr_eq bV_add bV_sub bV_mul bV_eql bV_neq bV_lss bV_leq bV_gtr bV_geq bV_quo bV_rem bV_shr bV_shl uV_not uV_neg wrapU bits_and bits_or bits_xor IntKind.bits Nat.min_eq_left Nat.min_eq_right Nat.min_self
attribute [local go_sem] bne_iff_ne Int.cast_ofNat_Int Nat.zero_add Nat.add_zero and_self and_true true_and ne_eq not_false_eq_true not_true_eq_false decide_true decide_false Bool.false_eq_true Bool.not_true Bool.not_false Bool.true_and Bool.and_true Bool.or_false Bool.false_or Bool.and_self

theorem lenQ_bd {a b : Pt} (hl : longB (b.x - a.x) (b.y - a.y) = false) : 0 ≤ lenQ a b ∧ lenQ a b ≤ 1073741824 := by
  have sq := sq_bd hl
  have hn : 0 ≤ (b.x - a.x) * (b.x - a.x) + (b.y - a.y) * (b.y - a.y) := by omega
  exact ⟨(isq_spec hn).1, isq_le hn (by decide) (by omega)⟩
/-- What a line leaves. -/
def LineQ (A : Nat → Prop) (pid : Nat) (pat : List Int) (C : Int) (pc : Cell) (ph : Int) (res : Option (Int × Int × List (List Pt))) (m : Mem) (n : Nat) (r' : Reg) (m' : Mem) (n' : Nat) : Prop :=
  n ≤ n' ∧ (∀ id, id < n → (id < pid ∨ A id) → m' id = m id) ∧ (res = none → r' = RB false) ∧ ∀ k' left' ls', res = some (k', left', ls') → r' = RB true ∧ DPen A pid m' n' pc ph k' left' ls' ∧ LineI pat C k' left' ls'
theorem LineI.point {pat : List Int} {C k left left' : Int} {ls : List (List Pt)} (h : LineI pat C k left ls) (b : Pt) (h0 : 0 ≤ left') (h1 : left' ≤ left) : LineI pat (C + 1) k left' (if k % 2 = 0 then addL ls b else ls) := by
  refine ⟨h.k0, h.k1, h0, by have := h.l1; omega, fun he => ?_, ?_, fun l hl => ?_⟩
  · rw [if_pos he]
    intro e
    have := addL_len ls b
    rw [e] at this
    exact h.ne he (List.length_eq_zero_iff.1 this.symm)
  · have := h.le
    split
    · rw [addL_len]; exact this
    · exact this
  · split at hl
    · rename_i hk
      rw [if_pos hk, addL_len]
      obtain ⟨l0, m1, m2⟩ := addL_mem ls b l hl
      have := h.bd l0 m1
      rcases m2 with rfl | rfl
      · omega
      · rw [List.length_append, List.length_singleton]; omega
    · rename_i hk
      rw [if_neg hk]
      have := h.bd l hl
      omega
set_option maxHeartbeats 4000000 in
theorem w_line {A : Nat → Prop} {pid : Nat} {m : Mem} {n : Nat} {pc : Cell} {ph k left C : Int} {ls : List (List Pt)} {a b : Pt} {pat : List Int} (h : DPen A pid m n pc ph k left ls) (hA : ∀ j, A j → j < n) (hAp : ¬ A pid) (hr : RIn m n (.one pc) pat) (hb : ∀ id, sid (.one pc) = some id → id < pid)
    (hP : PatI pat) (hL : LineI pat C k left ls) (hC : 1 ≤ C ∧ C ≤ 4294900000) (ha : inP a = true) (hbi : inP b = true) (hlg : longB (b.x - a.x) (b.y - a.y) = false) :
    Fn TA 40 [.one (.ptr pid 0), .agg [I a.x, I a.y], .agg [I b.x, I b.y]] m n (LineQ A pid pat (C + 1) pc ph (lineS pat a b k left ls) m n) := by
  refine Fn_ofK (fn := F40) rfl (by simp [F40]) ?_
  have ha' : inP ⟨a.x, a.y⟩ = true := ha
  have hb' : inP ⟨b.x, b.y⟩ = true := hbi
  have vL := v_Length a.x a.y b.x b.y
  rw [ha', hb', Bool.and_self, if_pos rfl, if_neg (by rw [hlg]; simp)] at vL
  have hN := lenQ_bd hlg
  rw [show isq ((b.x - a.x) * (b.x - a.x) + (b.y - a.y) * (b.y - a.y)) = lenQ a b from rfl] at vL
  obtain ⟨R, hR⟩ : ∃ R, R = lineGo pat a b (lenQ a b) (2 * (lenQ a b).toNat + 2) 0 k left ls := ⟨_, rfl⟩
  have hS : lineS pat a b k left ls = lineE (lenQ a b) b R := by rw [hR]; rfl
  rw [hS]
  have hpn : pid < n := by obtain ⟨_, _, h2, _⟩ := h; exact h2
  obtain ⟨M0, hM0⟩ : ∃ M0, M0 = upd (upd m n (some ⟨[I a.x, I a.y], true⟩)) (n + 1) (some ⟨[I b.x, I b.y], true⟩) := ⟨_, rfl⟩
  have hD0 : DPen (fun j => A j ∨ j = n ∨ j = n + 1) pid M0 (n + 2) pc ph k left ls := h.keep (by omega) (by rw [hM0, upd_ne _ _ (by omega), upd_ne _ _ (by omega)]) (fun id q1 q2 q3 => by rw [hM0, upd_ne _ _ (by omega), upd_ne _ _ (by omega)]) (fun j q1 q2 => by rcases q2 with q2 | q2 | q2 <;> first | exact q2 | omega)
  have hf0 : ∀ id, id < n → M0 id = m id := fun id hid => by rw [hM0, upd_ne _ _ (by omega), upd_ne _ _ (by omega)]
  generalize hNN : lenQ a b = NN at *
  try simp only [r40_0, r40_1, r40_2, r40_3, r40_4, r40_5, r40_6, r40_7, r40_8, r40_9, r40_10, r40_11, c40, F40, vL, go_sem, Int.reduceTMod, Int.reduceTDiv, Int.reduceDiv, Int.reduceMod, Int.reduceAdd, Int.reduceSub, Int.reduceMul, Int.reduceNeg, Int.reducePow, Int.reduceEq, ↓reduceIte, Nat.reduceEqDiff, Nat.reduceAdd, Nat.reduceMul, Nat.reduceLeDiff, Nat.reduceSub, Nat.reduceLT, Int.reduceToNat, Int.reduceLT, Int.reduceLE, reduceCtorEq]
  repeat' ((first | refine FK_split (fun h_ => ?_) (fun h_ => ?_) | refine GK_split (fun h_ => ?_) (fun h_ => ?_) | refine ite_both (fun h_ => ?_) (fun h_ => ?_)) <;> (try simp only [decide_eq_true_eq, decide_eq_false_iff_not, Bool.not_true, Bool.not_false, Bool.not_eq_true', Bool.not_eq_false', Bool.not_eq_eq_eq_not, Decidable.not_not] at h_) <;> (try simp only [r40_0, r40_1, r40_2, r40_3, r40_4, r40_5, r40_6, r40_7, r40_8, r40_9, r40_10, r40_11, c40, F40, vL, h_, go_sem, Int.reduceTMod, Int.reduceTDiv, Int.reduceDiv, Int.reduceMod, Int.reduceAdd, Int.reduceSub, Int.reduceMul, Int.reduceNeg, Int.reducePow, Int.reduceEq, ↓reduceIte, Nat.reduceEqDiff, Nat.reduceAdd, Nat.reduceMul, Nat.reduceLeDiff, Nat.reduceSub, Nat.reduceLT, Int.reduceToNat, Int.reduceLT, Int.reduceLE, reduceCtorEq]))
  rw [← hM0]
  refine XK_down (inv := fun d s => ∃ f t k1 left1 ls1, lineGo pat a b NN f t k1 left1 ls1 = R ∧ d = meas NN t left1 ∧ d < f ∧ (0 ≤ t ∧ t ≤ NN) ∧ LineI pat C k1 left1 ls1 ∧ s.e 7 = RI NN ∧ s.e 9 = RI t ∧ s.e 0 = .one (.ptr pid 0) ∧ s.e 4 = .one (.ptr n 0) ∧ s.e 5 = .one (.ptr (n + 1) 0) ∧ n + 2 ≤ s.n ∧
      DPen (fun j => A j ∨ j = n ∨ j = n + 1) pid s.m s.n pc ph k1 left1 ls1 ∧ (∀ id, id < n + 2 → (id < pid ∨ A id ∨ id = n ∨ id = n + 1) → s.m id = M0 id))
    (fun L _ d s hs next => ?_) (meas NN 0 left) _ ⟨2 * NN.toNat + 2, 0, k, left, ls, hR.symm, rfl, ?_, ⟨by omega, hN.1⟩, hL, ?_, ?_, ?_, ?_, ?_, Nat.le_refl _, hD0, fun _ _ _ => rfl⟩
  · obtain ⟨e, M, N⟩ := s
    obtain ⟨f, t, k1, left1, ls1, hgo, hd, hdf, ht, hI, q7, q9, q0, q4, q5, qn, hD, hfr⟩ := hs
    simp only at q7 q9 q0 q4 q5 qn hD hfr
    obtain ⟨oc, gp, gpn, gO⟩ := hD
    obtain ⟨f', rfl⟩ : ∃ f', f = f' + 1 := ⟨f - 1, by omega⟩
    have w1 : IntKind.i64.wrap (NN - t) = NN - t := wr_eq (by omega) (by omega)
    have hl0 := hI.l0
    have hl1 := hI.l1
    rw [lineGo] at hgo
    by_cases g : left1 < NN - t
    · rw [if_pos g] at hgo
      have w2 : IntKind.i64.wrap (t + left1) = t + left1 := wr_eq (by omega) (by omega)
      have vp := v_dplace (t := t + left1) (n := NN) ha' hb' hlg (by omega) (by omega) (by omega) hN.2
      have b1 : M n = some ⟨[I a.x, I a.y], true⟩ := by rw [hfr n (by omega) (by omega), hM0, upd_ne _ _ (by omega), upd_same]
      have b2 : M (n + 1) = some ⟨[I b.x, I b.y], true⟩ := by rw [hfr (n + 1) (by omega) (by omega), hM0, upd_same]
      generalize placeP a.x a.y b.x b.y (t + left1) NN = pp at *
      try simp only [r40_0, r40_1, r40_2, r40_3, r40_4, r40_5, r40_6, r40_7, r40_8, r40_9, r40_10, r40_11, c40, F40, l40_0, q7, q9, q0, q4, q5, gp, w1, g, w2, b1, rd_of b1, b2, rd_of b2, vp, go_sem, Int.reduceTMod, Int.reduceTDiv, Int.reduceDiv, Int.reduceMod, Int.reduceAdd, Int.reduceSub, Int.reduceMul, Int.reduceNeg, Int.reducePow, Int.reduceEq, ↓reduceIte, Nat.reduceEqDiff, Nat.reduceAdd, Nat.reduceMul, Nat.reduceLeDiff, Nat.reduceSub, Nat.reduceLT, Int.reduceToNat, Int.reduceLT, Int.reduceLE, reduceCtorEq]
      repeat' ((first | refine FK_split (fun h_ => ?_) (fun h_ => ?_) | refine GK_split (fun h_ => ?_) (fun h_ => ?_) | refine ite_both (fun h_ => ?_) (fun h_ => ?_)) <;> (try simp only [decide_eq_true_eq, decide_eq_false_iff_not, Bool.not_true, Bool.not_false, Bool.not_eq_true', Bool.not_eq_false', Bool.not_eq_eq_eq_not, Decidable.not_not] at h_) <;> (try simp only [r40_0, r40_1, r40_2, r40_3, r40_4, r40_5, r40_6, r40_7, r40_8, r40_9, r40_10, r40_11, c40, F40, l40_0, q7, q9, q0, q4, q5, gp, w1, g, w2, b1, rd_of b1, b2, rd_of b2, vp, h_, go_sem, Int.reduceTMod, Int.reduceTDiv, Int.reduceDiv, Int.reduceMod, Int.reduceAdd, Int.reduceSub, Int.reduceMul, Int.reduceNeg, Int.reducePow, Int.reduceEq, ↓reduceIte, Nat.reduceEqDiff, Nat.reduceAdd, Nat.reduceMul, Nat.reduceLeDiff, Nat.reduceSub, Nat.reduceLT, Int.reduceToNat, Int.reduceLT, Int.reduceLE, reduceCtorEq]))
      refine RK_callw ?_
      have hA' : ∀ j, (A j ∨ j = n ∨ j = n + 1) → j < N := fun j ha => by rcases ha with ha | ha | ha <;> first | omega | (have := hA j ha; omega)
      have hAp' : ¬ (A pid ∨ pid = n ∨ pid = n + 1) := fun ha => by rcases ha with ha | ha | ha <;> first | omega | exact hAp ha
      have hrM : RIn M N (.one pc) pat := hr.keep' (by omega) (fun id hid => by rw [hfr id (by have := hb id hid; omega) (Or.inl (hb id hid))]; exact hf0 id (by have := hb id hid; omega))
      obtain ⟨x, x0, x1, x2, x3⟩ := hP.at k1
      have hle := hI.le
      have hpl := hP.le
      have hk1 := hI.k1
      have hk0 := hI.k0
      have hnx := fun hlen => hI.next hP pp hC.1 hlen
      rw [x1] at hgo hnx
      refine (w_next (p := pp) ⟨oc, gp, gpn, gO⟩ hA' hAp' hrM hb hI.k0 hI.k1 (by omega) hI.ne (by omega) (fun l hl => by have := hI.bd l hl; omega) x0).mono ?_
      rintro _ m2 n2 ⟨hn2, ⟨oc2, gp2, gpn2, gO2⟩, hf2⟩
      have hlen2 := gO2.len
      by_cases g2 : 4096 < (nextL k1 ((k1 + 1) % pat.length) ls1 pp).length
      · rw [if_pos g2] at hgo
        have g2' : (4096 < ((nextL k1 ((k1 + 1) % pat.length) ls1 pp).length : Int)) = True := eq_true (by omega)
        try simp only [r40_0, r40_1, r40_2, r40_3, r40_4, r40_5, r40_6, r40_7, r40_8, r40_9, r40_10, r40_11, c40, F40, q0, gp2, hlen2, g2', go_sem, Int.reduceTMod, Int.reduceTDiv, Int.reduceDiv, Int.reduceMod, Int.reduceAdd, Int.reduceSub, Int.reduceMul, Int.reduceNeg, Int.reducePow, Int.reduceEq, ↓reduceIte, Nat.reduceEqDiff, Nat.reduceAdd, Nat.reduceMul, Nat.reduceLeDiff, Nat.reduceSub, Nat.reduceLT, Int.reduceToNat, Int.reduceLT, Int.reduceLE, reduceCtorEq]
        repeat' ((first | refine FK_split (fun h_ => ?_) (fun h_ => ?_) | refine GK_split (fun h_ => ?_) (fun h_ => ?_) | refine ite_both (fun h_ => ?_) (fun h_ => ?_)) <;> (try simp only [decide_eq_true_eq, decide_eq_false_iff_not, Bool.not_true, Bool.not_false, Bool.not_eq_true', Bool.not_eq_false', Bool.not_eq_eq_eq_not, Decidable.not_not] at h_) <;> (try simp only [r40_0, r40_1, r40_2, r40_3, r40_4, r40_5, r40_6, r40_7, r40_8, r40_9, r40_10, r40_11, c40, F40, q0, gp2, hlen2, g2', h_, go_sem, Int.reduceTMod, Int.reduceTDiv, Int.reduceDiv, Int.reduceMod, Int.reduceAdd, Int.reduceSub, Int.reduceMul, Int.reduceNeg, Int.reducePow, Int.reduceEq, ↓reduceIte, Nat.reduceEqDiff, Nat.reduceAdd, Nat.reduceMul, Nat.reduceLeDiff, Nat.reduceSub, Nat.reduceLT, Int.reduceToNat, Int.reduceLT, Int.reduceLE, reduceCtorEq]))
        refine ⟨by omega, fun id q1 q2 => ?_, fun _ => rfl, fun k' left' ls' hh => ?_⟩
        · rw [hf2 id (by omega) (q2.elim Or.inl (fun ha => Or.inr (Or.inl ha))), hfr id (by omega) (q2.elim Or.inl (fun ha => Or.inr (Or.inl ha)))]
          exact hf0 id q1
        · rw [← hgo] at hh
          cases hh
      · rw [if_neg g2] at hgo
        have g2' : (4096 < ((nextL k1 ((k1 + 1) % pat.length) ls1 pp).length : Int)) = False := eq_false (by omega)
        have hm1 : meas NN (t + left1) x < meas NN t left1 := by
          unfold meas
          split <;> split <;> omega
        try simp only [r40_0, r40_1, r40_2, r40_3, r40_4, r40_5, r40_6, r40_7, r40_8, r40_9, r40_10, r40_11, c40, F40, q0, gp2, hlen2, g2', go_sem, Int.reduceTMod, Int.reduceTDiv, Int.reduceDiv, Int.reduceMod, Int.reduceAdd, Int.reduceSub, Int.reduceMul, Int.reduceNeg, Int.reducePow, Int.reduceEq, ↓reduceIte, Nat.reduceEqDiff, Nat.reduceAdd, Nat.reduceMul, Nat.reduceLeDiff, Nat.reduceSub, Nat.reduceLT, Int.reduceToNat, Int.reduceLT, Int.reduceLE, reduceCtorEq]
        repeat' ((first | refine FK_split (fun h_ => ?_) (fun h_ => ?_) | refine GK_split (fun h_ => ?_) (fun h_ => ?_) | refine ite_both (fun h_ => ?_) (fun h_ => ?_)) <;> (try simp only [decide_eq_true_eq, decide_eq_false_iff_not, Bool.not_true, Bool.not_false, Bool.not_eq_true', Bool.not_eq_false', Bool.not_eq_eq_eq_not, Decidable.not_not] at h_) <;> (try simp only [r40_0, r40_1, r40_2, r40_3, r40_4, r40_5, r40_6, r40_7, r40_8, r40_9, r40_10, r40_11, c40, F40, q0, gp2, hlen2, g2', h_, go_sem, Int.reduceTMod, Int.reduceTDiv, Int.reduceDiv, Int.reduceMod, Int.reduceAdd, Int.reduceSub, Int.reduceMul, Int.reduceNeg, Int.reducePow, Int.reduceEq, ↓reduceIte, Nat.reduceEqDiff, Nat.reduceAdd, Nat.reduceMul, Nat.reduceLeDiff, Nat.reduceSub, Nat.reduceLT, Int.reduceToNat, Int.reduceLT, Int.reduceLE, reduceCtorEq]))
        refine next (meas NN (t + left1) x) _ (by omega) ⟨f', t + left1, _, x, _, hgo, rfl, by omega, by omega, hnx g2, ?_, ?_, ?_, ?_, ?_, ?_, ⟨oc2, gp2, gpn2, gO2⟩, fun id q1 q2 => ?_⟩
        · simp only [q7, go_sem, Int.reduceTMod, Int.reduceTDiv, Int.reduceDiv, Int.reduceMod, Int.reduceAdd, Int.reduceSub, Int.reduceMul, Int.reduceNeg, Int.reducePow, Int.reduceEq, ↓reduceIte, Nat.reduceEqDiff, Nat.reduceAdd, Nat.reduceMul, Nat.reduceLeDiff, Nat.reduceSub, Nat.reduceLT, Int.reduceToNat, Int.reduceLT, Int.reduceLE, reduceCtorEq]
        · simp only [go_sem, Int.reduceTMod, Int.reduceTDiv, Int.reduceDiv, Int.reduceMod, Int.reduceAdd, Int.reduceSub, Int.reduceMul, Int.reduceNeg, Int.reducePow, Int.reduceEq, ↓reduceIte, Nat.reduceEqDiff, Nat.reduceAdd, Nat.reduceMul, Nat.reduceLeDiff, Nat.reduceSub, Nat.reduceLT, Int.reduceToNat, Int.reduceLT, Int.reduceLE, reduceCtorEq]
        · simp only [q0, go_sem, Int.reduceTMod, Int.reduceTDiv, Int.reduceDiv, Int.reduceMod, Int.reduceAdd, Int.reduceSub, Int.reduceMul, Int.reduceNeg, Int.reducePow, Int.reduceEq, ↓reduceIte, Nat.reduceEqDiff, Nat.reduceAdd, Nat.reduceMul, Nat.reduceLeDiff, Nat.reduceSub, Nat.reduceLT, Int.reduceToNat, Int.reduceLT, Int.reduceLE, reduceCtorEq]
        · simp only [q4, go_sem, Int.reduceTMod, Int.reduceTDiv, Int.reduceDiv, Int.reduceMod, Int.reduceAdd, Int.reduceSub, Int.reduceMul, Int.reduceNeg, Int.reducePow, Int.reduceEq, ↓reduceIte, Nat.reduceEqDiff, Nat.reduceAdd, Nat.reduceMul, Nat.reduceLeDiff, Nat.reduceSub, Nat.reduceLT, Int.reduceToNat, Int.reduceLT, Int.reduceLE, reduceCtorEq]
        · simp only [q5, go_sem, Int.reduceTMod, Int.reduceTDiv, Int.reduceDiv, Int.reduceMod, Int.reduceAdd, Int.reduceSub, Int.reduceMul, Int.reduceNeg, Int.reducePow, Int.reduceEq, ↓reduceIte, Nat.reduceEqDiff, Nat.reduceAdd, Nat.reduceMul, Nat.reduceLeDiff, Nat.reduceSub, Nat.reduceLT, Int.reduceToNat, Int.reduceLT, Int.reduceLE, reduceCtorEq]
        · simp only [go_sem, Int.reduceTMod, Int.reduceTDiv, Int.reduceDiv, Int.reduceMod, Int.reduceAdd, Int.reduceSub, Int.reduceMul, Int.reduceNeg, Int.reducePow, Int.reduceEq, ↓reduceIte, Nat.reduceEqDiff, Nat.reduceAdd, Nat.reduceMul, Nat.reduceLeDiff, Nat.reduceSub, Nat.reduceLT, Int.reduceToNat, Int.reduceLT, Int.reduceLE, reduceCtorEq]
          omega
        · simp only
          rw [hf2 id (by omega) q2]
          exact hfr id q1 q2
    · rw [if_neg g] at hgo
      subst hgo
      have w2 : IntKind.i64.wrap (left1 - (NN - t)) = left1 - (NN - t) := wr_eq (by omega) (by omega)
      have b2 : M (n + 1) = some ⟨[I b.x, I b.y], true⟩ := by rw [hfr (n + 1) (by omega) (by omega), hM0, upd_same]
      have hk0 := hI.k0
      have vd := v_drawn (pid := pid) (m := frz (upd M pid (some ⟨[pc, I ph, I k1, I (left1 - (NN - t)), oc], true⟩))) (n := N) (pc := pc) (oc := oc) (ph := ph) (k := k1) (left := left1 - (NN - t)) (o := false) (by rw [frz_at, upd_same]; rfl) hk0
      have hIe := hI.point b (left' := left1 - (NN - t)) (by omega) (by omega)
      have z1 : (n + 1 = pid) = False := eq_false (by omega)
      have hfin : ∀ id, id < n → (id < pid ∨ A id) → M id = m id := fun id q1 q2 => by
        rw [hfr id (by omega) (q2.elim Or.inl (fun ha => Or.inr (Or.inl ha)))]
        exact hf0 id q1
      have hDe : DPen (fun j => A j ∨ j = n ∨ j = n + 1) pid (upd M pid (some ⟨[pc, I ph, I k1, I (left1 - (NN - t)), oc], true⟩)) N pc ph k1 (left1 - (NN - t)) ls1 :=
        ⟨oc, upd_same _ _ _, gpn, gO.keep (Nat.le_refl _) (fun j q1 q2 q3 => upd_ne _ _ (by omega)) (fun j _ ha => ha)⟩
      cases hd : decide (k1 % 2 = 0)
      · rw [hd] at vd
        have hk2 : ¬ (k1 % 2 = 0) := of_decide_eq_false hd
        rw [if_neg hk2] at hIe
        try simp only [r40_0, r40_1, r40_2, r40_3, r40_4, r40_5, r40_6, r40_7, r40_8, r40_9, r40_10, r40_11, c40, F40, l40_0, q7, q9, q0, gp, w1, g, w2, vd, go_sem, Int.reduceTMod, Int.reduceTDiv, Int.reduceDiv, Int.reduceMod, Int.reduceAdd, Int.reduceSub, Int.reduceMul, Int.reduceNeg, Int.reducePow, Int.reduceEq, ↓reduceIte, Nat.reduceEqDiff, Nat.reduceAdd, Nat.reduceMul, Nat.reduceLeDiff, Nat.reduceSub, Nat.reduceLT, Int.reduceToNat, Int.reduceLT, Int.reduceLE, reduceCtorEq]
        repeat' ((first | refine FK_split (fun h_ => ?_) (fun h_ => ?_) | refine GK_split (fun h_ => ?_) (fun h_ => ?_) | refine ite_both (fun h_ => ?_) (fun h_ => ?_)) <;> (try simp only [decide_eq_true_eq, decide_eq_false_iff_not, Bool.not_true, Bool.not_false, Bool.not_eq_true', Bool.not_eq_false', Bool.not_eq_eq_eq_not, Decidable.not_not] at h_) <;> (try simp only [r40_0, r40_1, r40_2, r40_3, r40_4, r40_5, r40_6, r40_7, r40_8, r40_9, r40_10, r40_11, c40, F40, l40_0, q7, q9, q0, gp, w1, g, w2, vd, h_, go_sem, Int.reduceTMod, Int.reduceTDiv, Int.reduceDiv, Int.reduceMod, Int.reduceAdd, Int.reduceSub, Int.reduceMul, Int.reduceNeg, Int.reducePow, Int.reduceEq, ↓reduceIte, Nat.reduceEqDiff, Nat.reduceAdd, Nat.reduceMul, Nat.reduceLeDiff, Nat.reduceSub, Nat.reduceLT, Int.reduceToNat, Int.reduceLT, Int.reduceLE, reduceCtorEq]))
        refine ⟨by omega, fun id q1 q2 => ?_, fun hh => (by cases hh), fun k' left' ls' hh => ⟨rfl, ?_⟩⟩
        · have hne : ¬ id = pid := fun e => q2.elim (fun h => by omega) (fun h => hAp (e ▸ h))
          first | rw [if_neg hne] | rw [upd_ne _ _ hne]
          exact hfin id q1 q2
        · simp only [lineE, Option.some.injEq, Prod.mk.injEq, if_neg hk2] at hh
          obtain ⟨rfl, rfl, rfl⟩ := hh
          exact ⟨hDe.keep (Nat.le_refl _) rfl (fun _ _ _ _ => rfl) (fun j _ ha => Or.inl ha), hIe⟩
      · rw [hd] at vd
        have hk2 : k1 % 2 = 0 := of_decide_eq_true hd
        rw [if_pos hk2] at hIe
        try simp only [r40_0, r40_1, r40_2, r40_3, r40_4, r40_5, r40_6, r40_7, r40_8, r40_9, r40_10, r40_11, c40, F40, l40_0, q7, q9, q0, q5, gp, w1, g, w2, vd, z1, b2, rd_of b2, go_sem, Int.reduceTMod, Int.reduceTDiv, Int.reduceDiv, Int.reduceMod, Int.reduceAdd, Int.reduceSub, Int.reduceMul, Int.reduceNeg, Int.reducePow, Int.reduceEq, ↓reduceIte, Nat.reduceEqDiff, Nat.reduceAdd, Nat.reduceMul, Nat.reduceLeDiff, Nat.reduceSub, Nat.reduceLT, Int.reduceToNat, Int.reduceLT, Int.reduceLE, reduceCtorEq]
        repeat' ((first | refine FK_split (fun h_ => ?_) (fun h_ => ?_) | refine GK_split (fun h_ => ?_) (fun h_ => ?_) | refine ite_both (fun h_ => ?_) (fun h_ => ?_)) <;> (try simp only [decide_eq_true_eq, decide_eq_false_iff_not, Bool.not_true, Bool.not_false, Bool.not_eq_true', Bool.not_eq_false', Bool.not_eq_eq_eq_not, Decidable.not_not] at h_) <;> (try simp only [r40_0, r40_1, r40_2, r40_3, r40_4, r40_5, r40_6, r40_7, r40_8, r40_9, r40_10, r40_11, c40, F40, l40_0, q7, q9, q0, q5, gp, w1, g, w2, vd, z1, b2, rd_of b2, h_, go_sem, Int.reduceTMod, Int.reduceTDiv, Int.reduceDiv, Int.reduceMod, Int.reduceAdd, Int.reduceSub, Int.reduceMul, Int.reduceNeg, Int.reducePow, Int.reduceEq, ↓reduceIte, Nat.reduceEqDiff, Nat.reduceAdd, Nat.reduceMul, Nat.reduceLeDiff, Nat.reduceSub, Nat.reduceLT, Int.reduceToNat, Int.reduceLT, Int.reduceLE, reduceCtorEq]))
        refine RK_callw ?_
        obtain ⟨a1, y, rfl⟩ : ∃ a y, ls1 = a ++ [y] := ⟨ls1.dropLast, ls1.getLast (hI.ne hk2), (List.dropLast_concat_getLast (hI.ne hk2)).symm⟩
        rw [addL_snoc] at hIe
        have hle := hI.le
        have hla : (a1 ++ [y]).length = a1.length + 1 := by simp
        refine (w_point (p := b) hDe (fun j ha => by rcases ha with ha | ha | ha <;> first | omega | (have := hA j ha; omega)) (by omega) (by have := hI.bd y (by simp); omega)).mono ?_
        rintro _ m2 n2 ⟨hn2, hD2, hf2⟩
        try simp only [r40_0, r40_1, r40_2, r40_3, r40_4, r40_5, r40_6, r40_7, r40_8, r40_9, r40_10, r40_11, c40, F40, go_sem, Int.reduceTMod, Int.reduceTDiv, Int.reduceDiv, Int.reduceMod, Int.reduceAdd, Int.reduceSub, Int.reduceMul, Int.reduceNeg, Int.reducePow, Int.reduceEq, ↓reduceIte, Nat.reduceEqDiff, Nat.reduceAdd, Nat.reduceMul, Nat.reduceLeDiff, Nat.reduceSub, Nat.reduceLT, Int.reduceToNat, Int.reduceLT, Int.reduceLE, reduceCtorEq]
        repeat' ((first | refine FK_split (fun h_ => ?_) (fun h_ => ?_) | refine GK_split (fun h_ => ?_) (fun h_ => ?_) | refine ite_both (fun h_ => ?_) (fun h_ => ?_)) <;> (try simp only [decide_eq_true_eq, decide_eq_false_iff_not, Bool.not_true, Bool.not_false, Bool.not_eq_true', Bool.not_eq_false', Bool.not_eq_eq_eq_not, Decidable.not_not] at h_) <;> (try simp only [r40_0, r40_1, r40_2, r40_3, r40_4, r40_5, r40_6, r40_7, r40_8, r40_9, r40_10, r40_11, c40, F40, h_, go_sem, Int.reduceTMod, Int.reduceTDiv, Int.reduceDiv, Int.reduceMod, Int.reduceAdd, Int.reduceSub, Int.reduceMul, Int.reduceNeg, Int.reducePow, Int.reduceEq, ↓reduceIte, Nat.reduceEqDiff, Nat.reduceAdd, Nat.reduceMul, Nat.reduceLeDiff, Nat.reduceSub, Nat.reduceLT, Int.reduceToNat, Int.reduceLT, Int.reduceLE, reduceCtorEq]))
        refine ⟨by omega, fun id q1 q2 => ?_, fun hh => (by cases hh), fun k' left' ls' hh => ⟨rfl, ?_⟩⟩
        · have hne : ¬ id = pid := fun e => q2.elim (fun h => by omega) (fun h => hAp (e ▸ h))
          rw [hf2 id (by omega) (q2.elim Or.inl (fun ha => Or.inr (Or.inl ha))), upd_ne _ _ hne]
          exact hfin id q1 q2
        · simp only [lineE, Option.some.injEq, Prod.mk.injEq, if_pos hk2, addL_snoc] at hh
          obtain ⟨rfl, rfl, rfl⟩ := hh
          exact ⟨hD2.keep (Nat.le_refl _) rfl (fun _ _ _ _ => rfl) (fun j _ ha => Or.inl ha), hIe⟩
  · unfold meas
    split <;> omega
  · simp only [go_sem, Int.reduceTMod, Int.reduceTDiv, Int.reduceDiv, Int.reduceMod, Int.reduceAdd, Int.reduceSub, Int.reduceMul, Int.reduceNeg, Int.reducePow, Int.reduceEq, ↓reduceIte, Nat.reduceEqDiff, Nat.reduceAdd, Nat.reduceMul, Nat.reduceLeDiff, Nat.reduceSub, Nat.reduceLT, Int.reduceToNat, Int.reduceLT, Int.reduceLE, reduceCtorEq]
  · simp only [go_sem, Int.reduceTMod, Int.reduceTDiv, Int.reduceDiv, Int.reduceMod, Int.reduceAdd, Int.reduceSub, Int.reduceMul, Int.reduceNeg, Int.reducePow, Int.reduceEq, ↓reduceIte, Nat.reduceEqDiff, Nat.reduceAdd, Nat.reduceMul, Nat.reduceLeDiff, Nat.reduceSub, Nat.reduceLT, Int.reduceToNat, Int.reduceLT, Int.reduceLE, reduceCtorEq]
  · simp only [go_sem, Int.reduceTMod, Int.reduceTDiv, Int.reduceDiv, Int.reduceMod, Int.reduceAdd, Int.reduceSub, Int.reduceMul, Int.reduceNeg, Int.reducePow, Int.reduceEq, ↓reduceIte, Nat.reduceEqDiff, Nat.reduceAdd, Nat.reduceMul, Nat.reduceLeDiff, Nat.reduceSub, Nat.reduceLT, Int.reduceToNat, Int.reduceLT, Int.reduceLE, reduceCtorEq]
  · simp only [go_sem, Int.reduceTMod, Int.reduceTDiv, Int.reduceDiv, Int.reduceMod, Int.reduceAdd, Int.reduceSub, Int.reduceMul, Int.reduceNeg, Int.reducePow, Int.reduceEq, ↓reduceIte, Nat.reduceEqDiff, Nat.reduceAdd, Nat.reduceMul, Nat.reduceLeDiff, Nat.reduceSub, Nat.reduceLT, Int.reduceToNat, Int.reduceLT, Int.reduceLE, reduceCtorEq]
  · simp only [go_sem, Int.reduceTMod, Int.reduceTDiv, Int.reduceDiv, Int.reduceMod, Int.reduceAdd, Int.reduceSub, Int.reduceMul, Int.reduceNeg, Int.reducePow, Int.reduceEq, ↓reduceIte, Nat.reduceEqDiff, Nat.reduceAdd, Nat.reduceMul, Nat.reduceLeDiff, Nat.reduceSub, Nat.reduceLT, Int.reduceToNat, Int.reduceLT, Int.reduceLE, reduceCtorEq]

/- A pen's beginning: the pattern's phase. Conditions: those that each theorem names. -/
open Go Go.Proofs
set_option linter.unusedSimpArgs false
set_option linter.unusedVariables false

/-- Which length a phase lies in, and how much is left of it. -/
def phGo (pat : List Int) : Nat → Int → Int → Int × Int
  | 0, _, k => (k, 0)
  | f + 1, t, k => if t < pat.getD k.toNat 0 then (k, pat.getD k.toNat 0 - t) else phGo pat f (t - pat.getD k.toNat 0) ((k + 1) % pat.length)
def phS (pat : List Int) (ph : Int) : Int × Int := phGo pat (ph.toNat + 1) ph 0
theorem PatI.get {pat : List Int} (h : PatI pat) {k : Int} (h0 : 0 ≤ k) (h1 : k < pat.length) : ∃ x, pat[k.toNat]? = some x ∧ pat.getD k.toNat 0 = x ∧ 1 ≤ x ∧ x ≤ 1048576 := by
  have hlt : k.toNat < pat.length := by omega
  exact ⟨pat[k.toNat], List.getElem?_eq_getElem hlt, by simp [List.getD, List.getElem?_eq_getElem hlt], h.bd _ (List.getElem_mem hlt)⟩
theorem PatI.mod {pat : List Int} (h : PatI pat) (k : Int) : 0 ≤ (k + 1) % (pat.length : Int) ∧ (k + 1) % (pat.length : Int) < pat.length := by
  have h1 := h.po
  exact ⟨Int.emod_nonneg _ (by omega), Int.emod_lt_of_pos _ (by omega)⟩
theorem phGo_bd {pat : List Int} (h : PatI pat) : ∀ (f : Nat) (t k : Int), 0 ≤ t → 0 ≤ k → k < pat.length → t.toNat < f → (0 ≤ (phGo pat f t k).1 ∧ (phGo pat f t k).1 < pat.length) ∧ 1 ≤ (phGo pat f t k).2 ∧ (phGo pat f t k).2 ≤ 1048576
  | 0, _, _, _, _, _, h4 => by omega
  | f + 1, t, k, h1, h2, h3, h4 => by
    obtain ⟨x, x0, x1, x2, x3⟩ := h.get h2 h3
    rw [phGo, x1]
    split
    · exact ⟨⟨h2, h3⟩, by simp only; omega, by simp only; omega⟩
    · exact phGo_bd h f _ _ (by omega) (h.mod k).1 (h.mod k).2 (by omega)
theorem phS_bd {pat : List Int} (h : PatI pat) {ph : Int} (h0 : 0 ≤ ph) : (0 ≤ (phS pat ph).1 ∧ (phS pat ph).1 < pat.length) ∧ 1 ≤ (phS pat ph).2 ∧ (phS pat ph).2 ≤ 1048576 :=
  phGo_bd h _ _ _ h0 (Int.le_refl _) (by have := h.po; omega) (by omega)
theorem phase_loop {K : Kt} {pat : List Int} {ph : Int} {pc : Cell} {pid tb : Nat} {m0 : Mem} {n0 : Nat} {wr : Reg} (hP : PatI pat) (hph : 0 ≤ ph ∧ ph ≤ 8388608) (hr : RIn m0 n0 (.one pc) pat) (hb : ∀ id, sid (.one pc) = some id → id < pid) (htb : tb < pid) (hpn : pid < n0)
    (hbox : m0 tb = some ⟨[pc, I ph], true⟩) (hpen : m0 pid = some ⟨[pc, I ph, I 0, I (pat.getD 0 0), .sc (.slice none 0 0)], true⟩) {e : Nat → Reg} (e10 : e 10 = RI ph) (e9 : e 9 = .one (.ptr pid 0)) (e3 : e 3 = .one (.ptr tb 0)) (e7 : e 7 = wr)
    (hK : ∀ s, s.e 9 = .one (.ptr pid 0) → s.e 7 = wr → s.m pid = some ⟨[pc, I ph, I (phS pat ph).1, I (phS pat ph).2, .sc (.slice none 0 0)], true⟩ → (∀ id, id ≠ pid → s.m id = m0 id) → s.n = n0 → KX TA K 1 s) :
    XK TA (.loop l18_0) ⟨e, m0, n0⟩ K := by
  obtain ⟨R, hR⟩ : ∃ R, R = phS pat ph := ⟨_, rfl⟩
  rw [← hR] at hK
  have hpo := hP.po
  have hpl := hP.le
  refine XK_down (inv := fun d s => ∃ (rest k left : Int), d = rest.toNat ∧ 0 ≤ rest ∧ rest ≤ ph ∧ (0 ≤ k ∧ k < pat.length) ∧ ((left = pat.getD k.toNat 0 ∧ ∃ f, rest.toNat < f ∧ phGo pat f rest k = R) ∨ (rest = 0 ∧ (k, left) = R)) ∧
      s.e 10 = RI rest ∧ s.e 9 = .one (.ptr pid 0) ∧ s.e 3 = .one (.ptr tb 0) ∧ s.e 7 = wr ∧ s.m pid = some ⟨[pc, I ph, I k, I left, .sc (.slice none 0 0)], true⟩ ∧ (∀ id, id ≠ pid → s.m id = m0 id) ∧ s.n = n0)
    (fun L _ d s hs next => ?_) ph.toNat _ ⟨ph, 0, pat.getD 0 0, rfl, hph.1, Int.le_refl _, ⟨Int.le_refl _, by omega⟩, Or.inl ⟨rfl, ph.toNat + 1, by omega, hR.symm⟩, e10, e9, e3, e7, hpen, fun _ _ => rfl, rfl⟩
  obtain ⟨e, M, N⟩ := s
  obtain ⟨rest, k, left, hd, r0, r1, ⟨k0, k1⟩, hcase, q10, q9, q3, q7, qp, qm, qn⟩ := hs
  simp only at q10 q9 q3 q7 qp qm qn
  subst qn
  obtain ⟨x, x0, x1, x2, x3⟩ := hP.get k0 k1
  by_cases g : 0 < rest
  · obtain ⟨hl, f, hf, hgo⟩ := hcase.resolve_right (fun h => by omega)
    obtain ⟨f', rfl⟩ : ∃ f', f = f' + 1 := ⟨f - 1, by omega⟩
    rw [phGo, x1] at hgo
    rw [x1] at hl
    subst hl
    by_cases g2 : rest < left
    · rw [if_pos g2] at hgo
      have mn : mnI rest left = rest := by unfold mnI; rw [if_neg (by omega)]
      have w1 : IntKind.i64.wrap (rest - rest) = 0 := (wr_eq (by omega) (by omega)).trans (by omega)
      have w2 : IntKind.i64.wrap (left - rest) = left - rest := wr_eq (by omega) (by omega)
      have w3 : (left - rest = 0) = False := eq_false (by omega)
      try simp only [r18_0, r18_1, r18_2, r18_3, r18_4, r18_5, r18_6, r18_7, r18_8, r18_9, r18_10, r18_11, r18_12, r18_13, r18_14, r18_15, r18_16, r18_17, r18_18, r18_19, r18_20, r18_21, r18_22, r18_23, r18_25, r18_26, r18_24, r18_27, c18, F18, l18_0, l18_1, q10, q9, qp, g, minI_two, mn, w1, w2, w3, go_sem, Int.reduceTMod, Int.reduceTDiv, Int.reduceDiv, Int.reduceMod, Int.reduceAdd, Int.reduceSub, Int.reduceMul, Int.reduceNeg, Int.reducePow, Int.reduceEq, ↓reduceIte, Nat.reduceEqDiff, Nat.reduceAdd, Nat.reduceMul, Nat.reduceLeDiff, Nat.reduceSub, Nat.reduceLT, Int.reduceToNat, Int.reduceLT, Int.reduceLE, reduceCtorEq]
      repeat' ((first | refine FK_split (fun h_ => ?_) (fun h_ => ?_) | refine GK_split (fun h_ => ?_) (fun h_ => ?_) | refine ite_both (fun h_ => ?_) (fun h_ => ?_)) <;> (try simp only [decide_eq_true_eq, decide_eq_false_iff_not, Bool.not_true, Bool.not_false, Bool.not_eq_true', Bool.not_eq_false', Bool.not_eq_eq_eq_not, Decidable.not_not] at h_) <;> (try simp only [r18_0, r18_1, r18_2, r18_3, r18_4, r18_5, r18_6, r18_7, r18_8, r18_9, r18_10, r18_11, r18_12, r18_13, r18_14, r18_15, r18_16, r18_17, r18_18, r18_19, r18_20, r18_21, r18_22, r18_23, r18_25, r18_26, r18_24, r18_27, c18, F18, l18_0, l18_1, q10, q9, qp, g, minI_two, mn, w1, w2, w3, h_, go_sem, Int.reduceTMod, Int.reduceTDiv, Int.reduceDiv, Int.reduceMod, Int.reduceAdd, Int.reduceSub, Int.reduceMul, Int.reduceNeg, Int.reducePow, Int.reduceEq, ↓reduceIte, Nat.reduceEqDiff, Nat.reduceAdd, Nat.reduceMul, Nat.reduceLeDiff, Nat.reduceSub, Nat.reduceLT, Int.reduceToNat, Int.reduceLT, Int.reduceLE, reduceCtorEq]))
      refine next 0 _ (by omega) ⟨0, k, left - rest, by simp, Int.le_refl _, hph.1, ⟨k0, k1⟩, Or.inr ⟨rfl, hgo⟩, ?_, ?_, ?_, ?_, ?_, ?_, rfl⟩
      · simp only [go_sem, Int.reduceTMod, Int.reduceTDiv, Int.reduceDiv, Int.reduceMod, Int.reduceAdd, Int.reduceSub, Int.reduceMul, Int.reduceNeg, Int.reducePow, Int.reduceEq, ↓reduceIte, Nat.reduceEqDiff, Nat.reduceAdd, Nat.reduceMul, Nat.reduceLeDiff, Nat.reduceSub, Nat.reduceLT, Int.reduceToNat, Int.reduceLT, Int.reduceLE, reduceCtorEq]
      · simp only [q9, go_sem, Int.reduceTMod, Int.reduceTDiv, Int.reduceDiv, Int.reduceMod, Int.reduceAdd, Int.reduceSub, Int.reduceMul, Int.reduceNeg, Int.reducePow, Int.reduceEq, ↓reduceIte, Nat.reduceEqDiff, Nat.reduceAdd, Nat.reduceMul, Nat.reduceLeDiff, Nat.reduceSub, Nat.reduceLT, Int.reduceToNat, Int.reduceLT, Int.reduceLE, reduceCtorEq]
      · simp only [q3, go_sem, Int.reduceTMod, Int.reduceTDiv, Int.reduceDiv, Int.reduceMod, Int.reduceAdd, Int.reduceSub, Int.reduceMul, Int.reduceNeg, Int.reducePow, Int.reduceEq, ↓reduceIte, Nat.reduceEqDiff, Nat.reduceAdd, Nat.reduceMul, Nat.reduceLeDiff, Nat.reduceSub, Nat.reduceLT, Int.reduceToNat, Int.reduceLT, Int.reduceLE, reduceCtorEq]
      · simp only [q7, go_sem, Int.reduceTMod, Int.reduceTDiv, Int.reduceDiv, Int.reduceMod, Int.reduceAdd, Int.reduceSub, Int.reduceMul, Int.reduceNeg, Int.reducePow, Int.reduceEq, ↓reduceIte, Nat.reduceEqDiff, Nat.reduceAdd, Nat.reduceMul, Nat.reduceLeDiff, Nat.reduceSub, Nat.reduceLT, Int.reduceToNat, Int.reduceLT, Int.reduceLE, reduceCtorEq]
      · simp only [go_sem, Int.reduceTMod, Int.reduceTDiv, Int.reduceDiv, Int.reduceMod, Int.reduceAdd, Int.reduceSub, Int.reduceMul, Int.reduceNeg, Int.reducePow, Int.reduceEq, ↓reduceIte, Nat.reduceEqDiff, Nat.reduceAdd, Nat.reduceMul, Nat.reduceLeDiff, Nat.reduceSub, Nat.reduceLT, Int.reduceToNat, Int.reduceLT, Int.reduceLE, reduceCtorEq]
      · intro id hid
        simp only
        rw [upd_ne _ _ hid]
        exact qm id hid
    · rw [if_neg g2] at hgo
      have u0 : ∀ (r l ph : Int) (d f : Nat), d = r.toNat → 1 ≤ l → ¬ r < l → r ≤ ph → r.toNat < f + 1 → (r - l).toNat < d ∧ 0 ≤ r - l ∧ r - l ≤ ph ∧ (r - l).toNat < f := fun r l ph d f a1 a2 a3 a4 a5 => by omega
      obtain ⟨u1, u2, u3, u4⟩ := u0 rest left ph d f' hd x2 g2 r1 hf
      clear u0
      have mn : mnI rest left = left := by
        unfold mnI
        by_cases h : left < rest
        · rw [if_pos h]
        · rw [if_neg h]; exact Int.le_antisymm (Int.not_lt.1 h) (Int.not_lt.1 g2)
      obtain ⟨y, y0, y1, y2, y3⟩ := hP.get (hP.mod k).1 (hP.mod k).2
      have hm := hP.mod k
      have hrM : RIn M N (.one pc) pat := hr.keep' (Nat.le_refl _) (fun id hid => qm id (by have := hb id hid; omega))
      obtain ⟨id, off, cap, b, hpc, hid, hbb, hcc⟩ := RL.int hrM y0
      simp only [Reg.one.injEq] at hpc
      have hidp : id < pid := hb id (by rw [hpc]; rfl)
      have hbox' : M tb = some ⟨[pc, I ph], true⟩ := by rw [qm tb (by omega)]; exact hbox
      rw [hpc] at qp hbox'
      have w1 : IntKind.i64.wrap (rest - left) = rest - left := wr_eq (by omega) (by omega)
      have w2 : IntKind.i64.wrap (left - left) = 0 := (wr_eq (by omega) (by omega)).trans (by omega)
      have w4 : IntKind.i64.wrap (k + 1) = k + 1 := wr_eq (by omega) (by omega)
      have w5 : (k + 1).tmod (pat.length : Int) = (k + 1) % pat.length := Int.tmod_eq_emod_of_nonneg (by omega)
      have w6 : ((pat.length : Int) = 0) = False := eq_false (by omega)
      have z1 : (tb = pid) = False := eq_false (by omega)
      have z2 : (id = pid) = False := eq_false (by omega)
      have d1 : (0 ≤ (k + 1) % (pat.length : Int)) = True := eq_true hm.1
      have d2 : ((k + 1) % (pat.length : Int) < (pat.length : Int)) = True := eq_true hm.2
      try simp only [r18_0, r18_1, r18_2, r18_3, r18_4, r18_5, r18_6, r18_7, r18_8, r18_9, r18_10, r18_11, r18_12, r18_13, r18_14, r18_15, r18_16, r18_17, r18_18, r18_19, r18_20, r18_21, r18_22, r18_23, r18_25, r18_26, r18_24, r18_27, c18, F18, l18_0, l18_1, q10, q9, q3, qp, g, minI_two, mn, w1, w2, w4, w5, w6, z1, z2, d1, d2, hbox', hbb, hcc, lenO, Nat.mul_one, go_sem, Int.reduceTMod, Int.reduceTDiv, Int.reduceDiv, Int.reduceMod, Int.reduceAdd, Int.reduceSub, Int.reduceMul, Int.reduceNeg, Int.reducePow, Int.reduceEq, ↓reduceIte, Nat.reduceEqDiff, Nat.reduceAdd, Nat.reduceMul, Nat.reduceLeDiff, Nat.reduceSub, Nat.reduceLT, Int.reduceToNat, Int.reduceLT, Int.reduceLE, reduceCtorEq]
      repeat' ((first | refine FK_split (fun h_ => ?_) (fun h_ => ?_) | refine GK_split (fun h_ => ?_) (fun h_ => ?_) | refine ite_both (fun h_ => ?_) (fun h_ => ?_)) <;> (try simp only [decide_eq_true_eq, decide_eq_false_iff_not, Bool.not_true, Bool.not_false, Bool.not_eq_true', Bool.not_eq_false', Bool.not_eq_eq_eq_not, Decidable.not_not] at h_) <;> (try simp only [r18_0, r18_1, r18_2, r18_3, r18_4, r18_5, r18_6, r18_7, r18_8, r18_9, r18_10, r18_11, r18_12, r18_13, r18_14, r18_15, r18_16, r18_17, r18_18, r18_19, r18_20, r18_21, r18_22, r18_23, r18_25, r18_26, r18_24, r18_27, c18, F18, l18_0, l18_1, q10, q9, q3, qp, g, minI_two, mn, w1, w2, w4, w5, w6, z1, z2, d1, d2, hbox', hbb, hcc, lenO, Nat.mul_one, h_, go_sem, Int.reduceTMod, Int.reduceTDiv, Int.reduceDiv, Int.reduceMod, Int.reduceAdd, Int.reduceSub, Int.reduceMul, Int.reduceNeg, Int.reducePow, Int.reduceEq, ↓reduceIte, Nat.reduceEqDiff, Nat.reduceAdd, Nat.reduceMul, Nat.reduceLeDiff, Nat.reduceSub, Nat.reduceLT, Int.reduceToNat, Int.reduceLT, Int.reduceLE, reduceCtorEq]))
      refine next (rest - left).toNat _ u1 ⟨rest - left, (k + 1) % pat.length, y, rfl, u2, u3, hm, Or.inl ⟨y1.symm, f', u4, hgo⟩, ?_, ?_, ?_, ?_, ?_, ?_, rfl⟩
      · simp only [go_sem, Int.reduceTMod, Int.reduceTDiv, Int.reduceDiv, Int.reduceMod, Int.reduceAdd, Int.reduceSub, Int.reduceMul, Int.reduceNeg, Int.reducePow, Int.reduceEq, ↓reduceIte, Nat.reduceEqDiff, Nat.reduceAdd, Nat.reduceMul, Nat.reduceLeDiff, Nat.reduceSub, Nat.reduceLT, Int.reduceToNat, Int.reduceLT, Int.reduceLE, reduceCtorEq]
      · simp only [q9, go_sem, Int.reduceTMod, Int.reduceTDiv, Int.reduceDiv, Int.reduceMod, Int.reduceAdd, Int.reduceSub, Int.reduceMul, Int.reduceNeg, Int.reducePow, Int.reduceEq, ↓reduceIte, Nat.reduceEqDiff, Nat.reduceAdd, Nat.reduceMul, Nat.reduceLeDiff, Nat.reduceSub, Nat.reduceLT, Int.reduceToNat, Int.reduceLT, Int.reduceLE, reduceCtorEq]
      · simp only [q3, go_sem, Int.reduceTMod, Int.reduceTDiv, Int.reduceDiv, Int.reduceMod, Int.reduceAdd, Int.reduceSub, Int.reduceMul, Int.reduceNeg, Int.reducePow, Int.reduceEq, ↓reduceIte, Nat.reduceEqDiff, Nat.reduceAdd, Nat.reduceMul, Nat.reduceLeDiff, Nat.reduceSub, Nat.reduceLT, Int.reduceToNat, Int.reduceLT, Int.reduceLE, reduceCtorEq]
      · simp only [q7, go_sem, Int.reduceTMod, Int.reduceTDiv, Int.reduceDiv, Int.reduceMod, Int.reduceAdd, Int.reduceSub, Int.reduceMul, Int.reduceNeg, Int.reducePow, Int.reduceEq, ↓reduceIte, Nat.reduceEqDiff, Nat.reduceAdd, Nat.reduceMul, Nat.reduceLeDiff, Nat.reduceSub, Nat.reduceLT, Int.reduceToNat, Int.reduceLT, Int.reduceLE, reduceCtorEq]
      · simp only [hpc, go_sem, Int.reduceTMod, Int.reduceTDiv, Int.reduceDiv, Int.reduceMod, Int.reduceAdd, Int.reduceSub, Int.reduceMul, Int.reduceNeg, Int.reducePow, Int.reduceEq, ↓reduceIte, Nat.reduceEqDiff, Nat.reduceAdd, Nat.reduceMul, Nat.reduceLeDiff, Nat.reduceSub, Nat.reduceLT, Int.reduceToNat, Int.reduceLT, Int.reduceLE, reduceCtorEq]
      · intro id hid
        simp only
        rw [upd_ne _ _ hid, upd_ne _ _ hid, upd_ne _ _ hid]
        exact qm id hid
  · have hrest : rest = 0 := by omega
    subst hrest
    have hfin : (k, left) = R := by
      rcases hcase with ⟨hl, f, hf, hgo⟩ | ⟨_, h⟩
      · obtain ⟨f', rfl⟩ : ∃ f', f = f' + 1 := ⟨f - 1, by omega⟩
        rw [phGo, x1, if_pos (by omega)] at hgo
        rw [← hgo, hl, x1, Int.sub_zero]
      · exact h
    try simp only [r18_0, r18_1, r18_2, r18_3, r18_4, r18_5, r18_6, r18_7, r18_8, r18_9, r18_10, r18_11, r18_12, r18_13, r18_14, r18_15, r18_16, r18_17, r18_18, r18_19, r18_20, r18_21, r18_22, r18_23, r18_25, r18_26, r18_24, r18_27, c18, F18, l18_0, l18_1, q10, go_sem, Int.reduceTMod, Int.reduceTDiv, Int.reduceDiv, Int.reduceMod, Int.reduceAdd, Int.reduceSub, Int.reduceMul, Int.reduceNeg, Int.reducePow, Int.reduceEq, ↓reduceIte, Nat.reduceEqDiff, Nat.reduceAdd, Nat.reduceMul, Nat.reduceLeDiff, Nat.reduceSub, Nat.reduceLT, Int.reduceToNat, Int.reduceLT, Int.reduceLE, reduceCtorEq]
    repeat' ((first | refine FK_split (fun h_ => ?_) (fun h_ => ?_) | refine GK_split (fun h_ => ?_) (fun h_ => ?_) | refine ite_both (fun h_ => ?_) (fun h_ => ?_)) <;> (try simp only [decide_eq_true_eq, decide_eq_false_iff_not, Bool.not_true, Bool.not_false, Bool.not_eq_true', Bool.not_eq_false', Bool.not_eq_eq_eq_not, Decidable.not_not] at h_) <;> (try simp only [r18_0, r18_1, r18_2, r18_3, r18_4, r18_5, r18_6, r18_7, r18_8, r18_9, r18_10, r18_11, r18_12, r18_13, r18_14, r18_15, r18_16, r18_17, r18_18, r18_19, r18_20, r18_21, r18_22, r18_23, r18_25, r18_26, r18_24, r18_27, c18, F18, l18_0, l18_1, q10, h_, go_sem, Int.reduceTMod, Int.reduceTDiv, Int.reduceDiv, Int.reduceMod, Int.reduceAdd, Int.reduceSub, Int.reduceMul, Int.reduceNeg, Int.reducePow, Int.reduceEq, ↓reduceIte, Nat.reduceEqDiff, Nat.reduceAdd, Nat.reduceMul, Nat.reduceLeDiff, Nat.reduceSub, Nat.reduceLT, Int.reduceToNat, Int.reduceLT, Int.reduceLE, reduceCtorEq]))
    refine hK _ ?_ ?_ ?_ qm rfl
    · simp only [q9, go_sem, Int.reduceTMod, Int.reduceTDiv, Int.reduceDiv, Int.reduceMod, Int.reduceAdd, Int.reduceSub, Int.reduceMul, Int.reduceNeg, Int.reducePow, Int.reduceEq, ↓reduceIte, Nat.reduceEqDiff, Nat.reduceAdd, Nat.reduceMul, Nat.reduceLeDiff, Nat.reduceSub, Nat.reduceLT, Int.reduceToNat, Int.reduceLT, Int.reduceLE, reduceCtorEq]
    · simp only [q7, go_sem, Int.reduceTMod, Int.reduceTDiv, Int.reduceDiv, Int.reduceMod, Int.reduceAdd, Int.reduceSub, Int.reduceMul, Int.reduceNeg, Int.reducePow, Int.reduceEq, ↓reduceIte, Nat.reduceEqDiff, Nat.reduceAdd, Nat.reduceMul, Nat.reduceLeDiff, Nat.reduceSub, Nat.reduceLT, Int.reduceToNat, Int.reduceLT, Int.reduceLE, reduceCtorEq]
    · rw [← hfin]
      exact qp

/- A pen that goes along a way. Conditions: those that each theorem names. -/
open Go Go.Proofs
set_option linter.unusedSimpArgs false
set_option linter.unusedVariables false

/-- The pen behind the first lines of a way; none: there are too many pieces. -/
noncomputable def dashTo (pat : List Int) (way : List Pt) (st : Int × Int × List (List Pt)) : Nat → Option (Int × Int × List (List Pt))
  | 0 => some st
  | i + 1 => match dashTo pat way st i with
    | none => none
    | some (k, left, ls) => match way[i]?, way[i + 1]? with
      | some a, some b => lineS pat a b k left ls
      | _, _ => some (k, left, ls)
theorem dashTo_none {pat : List Int} {way : List Pt} {st : Int × Int × List (List Pt)} {i : Nat} (h : dashTo pat way st i = none) : ∀ j, i ≤ j → dashTo pat way st j = none := by
  intro j hj
  induction j with
  | zero => rwa [show i = 0 by omega] at h
  | succ j ih =>
    by_cases e : i = j + 1
    · subst e; exact h
    · rw [dashTo, ih (by omega)]
theorem lg_at {w : List Pt} (h : anyLg w w.length = false) {i : Nat} {p q : Pt} (hp : w[i]? = some p) (hq : w[i + 1]? = some q) : longB (q.x - p.x) (q.y - p.y) = false := by
  have hlt : i + 1 < w.length := (List.getElem?_eq_some_iff.1 hq).1
  have h1 : anyLg w (i + 1 + 1) = false := by
    cases hc : anyLg w (i + 1 + 1)
    · rfl
    · rw [anyLg_mono hc w.length (by omega)] at h; cases h
  rw [anyLg_succ (by omega) (show w[i + 1 - 1]? = some p by rw [Nat.add_sub_cancel]; exact hp) hq, Bool.or_eq_false_iff] at h1
  exact h1.2
abbrev noA : Nat → Prop := fun _ => False
set_option maxHeartbeats 2000000 in
theorem lines_loop {K : Kt} {pat : List Int} {way : List Pt} {ph k left : Int} {ls : List (List Pt)} {pc : Cell} {pid : Nat} {m0 : Mem} {n0 : Nat} {wr : Reg} (hP : PatI pat) (hr : RIn m0 n0 (.one pc) pat) (hb : ∀ id, sid (.one pc) = some id → id < pid)
    (hw : RPt m0 n0 wr way) (hwb : ∀ id, sid wr = some id → id < pid) (hwi : way.all inP = true) (hwl : anyLg way way.length = false) (hw0 : 0 < way.length) (hwm : way.length ≤ 1000000) (hD : DPen noA pid m0 n0 pc ph k left ls) (hI : LineI pat 1 k left ls)
    {e : Nat → Reg} (e12 : e 12 = RI 1) (e9 : e 9 = .one (.ptr pid 0)) (e7 : e 7 = wr)
    (hret : dashTo pat way (k, left, ls) (way.length - 1) = none → ∀ s, s.e 4 = rnil → s.e 5 = RI 36 → KR TA K s)
    (hK : ∀ k' left' ls' s, dashTo pat way (k, left, ls) (way.length - 1) = some (k', left', ls') → s.e 9 = .one (.ptr pid 0) → DPen noA pid s.m s.n pc ph k' left' ls' → LineI pat way.length k' left' ls' → KX TA K 3 s) :
    XK TA (.loop l18_1) ⟨e, m0, n0⟩ K := by
  have hlen := hw.len
  refine XK_iter (inv := fun i s => ∃ (k1 left1 : Int) (ls1 : List (List Pt)), dashTo pat way (k, left, ls) i = some (k1, left1, ls1) ∧ LineI pat (1 + i) k1 left1 ls1 ∧ s.e 12 = RI ((i + 1 : Nat) : Int) ∧ s.e 9 = .one (.ptr pid 0) ∧ s.e 7 = wr ∧ n0 ≤ s.n ∧ DPen noA pid s.m s.n pc ph k1 left1 ls1 ∧ (∀ id, id < pid → s.m id = m0 id)) (way.length - 1)
    (fun L _ => ⟨fun i hi s hs next => ?_, fun s hs => ?_⟩) 0 (by omega) _ ⟨k, left, ls, rfl, hI, e12, e9, e7, Nat.le_refl _, hD, fun _ _ => rfl⟩
  · obtain ⟨e, M, N⟩ := s
    obtain ⟨k1, left1, ls1, hd, hI1, q12, q9, q7, qn, qD, qm⟩ := hs
    simp only at q12 q9 q7 qn qD qm
    have hpn : pid < N := by obtain ⟨_, _, h2, _⟩ := qD; exact h2
    have hp : way[i]? = some (way[i]'(by omega)) := List.getElem?_eq_getElem (by omega)
    have hq : way[i + 1]? = some (way[i + 1]'(by omega)) := List.getElem?_eq_getElem (by omega)
    have hwM : RPt M N wr way := hw.keep' qn (fun id hid => qm id (hwb id hid))
    have hrM : RIn M N (.one pc) pat := hr.keep' qn (fun id hid => qm id (hb id hid))
    obtain ⟨id, off, cap, hr1, hid, hrd⟩ := hwM.at cs2 hp
    obtain ⟨id', off', cap', hr1', _, hrd'⟩ := hwM.at cs2 hq
    rw [hr1] at hr1'
    simp only [Reg.one.injEq, Cell.sl.injEq, true_and] at hr1'
    obtain ⟨rfl, rfl, rfl, _⟩ := hr1'
    have hpi : inP (way[i]'(by omega)) = true := List.all_eq_true.1 hwi _ (List.getElem_mem (by omega))
    have hqi : inP (way[i + 1]'(by omega)) = true := List.all_eq_true.1 hwi _ (List.getElem_mem (by omega))
    have hlg := lg_at hwl hp hq
    have hsn : dashTo pat way (k, left, ls) (i + 1) = lineS pat (way[i]'(by omega)) (way[i + 1]'(by omega)) k1 left1 ls1 := by rw [dashTo, hd, hp, hq]
    generalize (way[i]'(by omega)) = a at *
    generalize (way[i + 1]'(by omega)) = b at *
    have c1 : (((i + 1 : Nat) : Int) < (way.length : Int)) = True := eq_true (by omega)
    have c2 : IntKind.i64.wrap (((i + 1 : Nat) : Int) - 1) = (i : Int) := (wr_eq (by omega) (by omega)).trans (by omega)
    have c3 : (0 ≤ (i : Int)) = True := eq_true (by omega)
    have c4 : ((i : Int) < (way.length : Int)) = True := eq_true (by omega)
    have c5 : (0 ≤ ((i + 1 : Nat) : Int)) = True := eq_true (by omega)
    have c6 : IntKind.i64.wrap (((i + 1 : Nat) : Int) + 1) = ((i + 1 + 1 : Nat) : Int) := wr_nat (by omega)
    rw [hr1] at q7
    try simp only [r18_0, r18_1, r18_2, r18_3, r18_4, r18_5, r18_6, r18_7, r18_8, r18_9, r18_10, r18_11, r18_12, r18_13, r18_14, r18_15, r18_16, r18_17, r18_18, r18_19, r18_20, r18_21, r18_22, r18_23, r18_25, r18_26, r18_24, r18_27, c18, F18, l18_0, l18_1, q12, q9, q7, c1, c2, c3, c4, c5, hrd, hrd', lenO, Int.toNat_natCast, go_sem, Int.reduceTMod, Int.reduceTDiv, Int.reduceDiv, Int.reduceMod, Int.reduceAdd, Int.reduceSub, Int.reduceMul, Int.reduceNeg, Int.reducePow, Int.reduceEq, ↓reduceIte, Nat.reduceEqDiff, Nat.reduceAdd, Nat.reduceMul, Nat.reduceLeDiff, Nat.reduceSub, Nat.reduceLT, Int.reduceToNat, Int.reduceLT, Int.reduceLE, reduceCtorEq]
    repeat' ((first | refine FK_split (fun h_ => ?_) (fun h_ => ?_) | refine GK_split (fun h_ => ?_) (fun h_ => ?_) | refine ite_both (fun h_ => ?_) (fun h_ => ?_)) <;> (try simp only [decide_eq_true_eq, decide_eq_false_iff_not, Bool.not_true, Bool.not_false, Bool.not_eq_true', Bool.not_eq_false', Bool.not_eq_eq_eq_not, Decidable.not_not] at h_) <;> (try simp only [r18_0, r18_1, r18_2, r18_3, r18_4, r18_5, r18_6, r18_7, r18_8, r18_9, r18_10, r18_11, r18_12, r18_13, r18_14, r18_15, r18_16, r18_17, r18_18, r18_19, r18_20, r18_21, r18_22, r18_23, r18_25, r18_26, r18_24, r18_27, c18, F18, l18_0, l18_1, q12, q9, q7, c1, c2, c3, c4, c5, hrd, hrd', lenO, Int.toNat_natCast, h_, go_sem, Int.reduceTMod, Int.reduceTDiv, Int.reduceDiv, Int.reduceMod, Int.reduceAdd, Int.reduceSub, Int.reduceMul, Int.reduceNeg, Int.reducePow, Int.reduceEq, ↓reduceIte, Nat.reduceEqDiff, Nat.reduceAdd, Nat.reduceMul, Nat.reduceLeDiff, Nat.reduceSub, Nat.reduceLT, Int.reduceToNat, Int.reduceLT, Int.reduceLE, reduceCtorEq]))
    refine RK_callw ?_
    refine (w_line (a := a) (b := b) qD (fun j h => h.elim) (fun h => h) hrM hb hP hI1 (by omega) hpi hqi hlg).mono ?_
    rintro r2 m2 n2 ⟨hn2, hf2, hx1, hx2⟩
    rw [← hsn] at hx1 hx2
    cases hres : dashTo pat way (k, left, ls) (i + 1) with
    | none =>
      have hr2 := hx1 hres
      subst hr2
      try simp only [r18_0, r18_1, r18_2, r18_3, r18_4, r18_5, r18_6, r18_7, r18_8, r18_9, r18_10, r18_11, r18_12, r18_13, r18_14, r18_15, r18_16, r18_17, r18_18, r18_19, r18_20, r18_21, r18_22, r18_23, r18_25, r18_26, r18_24, r18_27, c18, F18, go_sem, Int.reduceTMod, Int.reduceTDiv, Int.reduceDiv, Int.reduceMod, Int.reduceAdd, Int.reduceSub, Int.reduceMul, Int.reduceNeg, Int.reducePow, Int.reduceEq, ↓reduceIte, Nat.reduceEqDiff, Nat.reduceAdd, Nat.reduceMul, Nat.reduceLeDiff, Nat.reduceSub, Nat.reduceLT, Int.reduceToNat, Int.reduceLT, Int.reduceLE, reduceCtorEq]
      repeat' ((first | refine FK_split (fun h_ => ?_) (fun h_ => ?_) | refine GK_split (fun h_ => ?_) (fun h_ => ?_) | refine ite_both (fun h_ => ?_) (fun h_ => ?_)) <;> (try simp only [decide_eq_true_eq, decide_eq_false_iff_not, Bool.not_true, Bool.not_false, Bool.not_eq_true', Bool.not_eq_false', Bool.not_eq_eq_eq_not, Decidable.not_not] at h_) <;> (try simp only [r18_0, r18_1, r18_2, r18_3, r18_4, r18_5, r18_6, r18_7, r18_8, r18_9, r18_10, r18_11, r18_12, r18_13, r18_14, r18_15, r18_16, r18_17, r18_18, r18_19, r18_20, r18_21, r18_22, r18_23, r18_25, r18_26, r18_24, r18_27, c18, F18, h_, go_sem, Int.reduceTMod, Int.reduceTDiv, Int.reduceDiv, Int.reduceMod, Int.reduceAdd, Int.reduceSub, Int.reduceMul, Int.reduceNeg, Int.reducePow, Int.reduceEq, ↓reduceIte, Nat.reduceEqDiff, Nat.reduceAdd, Nat.reduceMul, Nat.reduceLeDiff, Nat.reduceSub, Nat.reduceLT, Int.reduceToNat, Int.reduceLT, Int.reduceLE, reduceCtorEq]))
      refine hret (dashTo_none hres _ (by omega)) _ ?_ ?_
      · simp only [go_sem, Int.reduceTMod, Int.reduceTDiv, Int.reduceDiv, Int.reduceMod, Int.reduceAdd, Int.reduceSub, Int.reduceMul, Int.reduceNeg, Int.reducePow, Int.reduceEq, ↓reduceIte, Nat.reduceEqDiff, Nat.reduceAdd, Nat.reduceMul, Nat.reduceLeDiff, Nat.reduceSub, Nat.reduceLT, Int.reduceToNat, Int.reduceLT, Int.reduceLE, reduceCtorEq]
      · simp only [go_sem, Int.reduceTMod, Int.reduceTDiv, Int.reduceDiv, Int.reduceMod, Int.reduceAdd, Int.reduceSub, Int.reduceMul, Int.reduceNeg, Int.reducePow, Int.reduceEq, ↓reduceIte, Nat.reduceEqDiff, Nat.reduceAdd, Nat.reduceMul, Nat.reduceLeDiff, Nat.reduceSub, Nat.reduceLT, Int.reduceToNat, Int.reduceLT, Int.reduceLE, reduceCtorEq]
    | some st =>
      obtain ⟨k2, left2, ls2⟩ := st
      obtain ⟨rfl, hD2, hI2⟩ := hx2 k2 left2 ls2 hres
      try simp only [r18_0, r18_1, r18_2, r18_3, r18_4, r18_5, r18_6, r18_7, r18_8, r18_9, r18_10, r18_11, r18_12, r18_13, r18_14, r18_15, r18_16, r18_17, r18_18, r18_19, r18_20, r18_21, r18_22, r18_23, r18_25, r18_26, r18_24, r18_27, c18, F18, q12, c6, go_sem, Int.reduceTMod, Int.reduceTDiv, Int.reduceDiv, Int.reduceMod, Int.reduceAdd, Int.reduceSub, Int.reduceMul, Int.reduceNeg, Int.reducePow, Int.reduceEq, ↓reduceIte, Nat.reduceEqDiff, Nat.reduceAdd, Nat.reduceMul, Nat.reduceLeDiff, Nat.reduceSub, Nat.reduceLT, Int.reduceToNat, Int.reduceLT, Int.reduceLE, reduceCtorEq]
      repeat' ((first | refine FK_split (fun h_ => ?_) (fun h_ => ?_) | refine GK_split (fun h_ => ?_) (fun h_ => ?_) | refine ite_both (fun h_ => ?_) (fun h_ => ?_)) <;> (try simp only [decide_eq_true_eq, decide_eq_false_iff_not, Bool.not_true, Bool.not_false, Bool.not_eq_true', Bool.not_eq_false', Bool.not_eq_eq_eq_not, Decidable.not_not] at h_) <;> (try simp only [r18_0, r18_1, r18_2, r18_3, r18_4, r18_5, r18_6, r18_7, r18_8, r18_9, r18_10, r18_11, r18_12, r18_13, r18_14, r18_15, r18_16, r18_17, r18_18, r18_19, r18_20, r18_21, r18_22, r18_23, r18_25, r18_26, r18_24, r18_27, c18, F18, q12, c6, h_, go_sem, Int.reduceTMod, Int.reduceTDiv, Int.reduceDiv, Int.reduceMod, Int.reduceAdd, Int.reduceSub, Int.reduceMul, Int.reduceNeg, Int.reducePow, Int.reduceEq, ↓reduceIte, Nat.reduceEqDiff, Nat.reduceAdd, Nat.reduceMul, Nat.reduceLeDiff, Nat.reduceSub, Nat.reduceLT, Int.reduceToNat, Int.reduceLT, Int.reduceLE, reduceCtorEq]))
      refine next _ ⟨k2, left2, ls2, hres, ?_, ?_, ?_, ?_, ?_, hD2, fun id hid => ?_⟩
      · have e : (1 : Int) + ((i + 1 : Nat) : Int) = 1 + (i : Int) + 1 := by omega
        rw [e]
        exact hI2
      · simp only [go_sem, Int.reduceTMod, Int.reduceTDiv, Int.reduceDiv, Int.reduceMod, Int.reduceAdd, Int.reduceSub, Int.reduceMul, Int.reduceNeg, Int.reducePow, Int.reduceEq, ↓reduceIte, Nat.reduceEqDiff, Nat.reduceAdd, Nat.reduceMul, Nat.reduceLeDiff, Nat.reduceSub, Nat.reduceLT, Int.reduceToNat, Int.reduceLT, Int.reduceLE, reduceCtorEq]
      · simp only [q9, go_sem, Int.reduceTMod, Int.reduceTDiv, Int.reduceDiv, Int.reduceMod, Int.reduceAdd, Int.reduceSub, Int.reduceMul, Int.reduceNeg, Int.reducePow, Int.reduceEq, ↓reduceIte, Nat.reduceEqDiff, Nat.reduceAdd, Nat.reduceMul, Nat.reduceLeDiff, Nat.reduceSub, Nat.reduceLT, Int.reduceToNat, Int.reduceLT, Int.reduceLE, reduceCtorEq]
      · simp only [q7, hr1, go_sem, Int.reduceTMod, Int.reduceTDiv, Int.reduceDiv, Int.reduceMod, Int.reduceAdd, Int.reduceSub, Int.reduceMul, Int.reduceNeg, Int.reducePow, Int.reduceEq, ↓reduceIte, Nat.reduceEqDiff, Nat.reduceAdd, Nat.reduceMul, Nat.reduceLeDiff, Nat.reduceSub, Nat.reduceLT, Int.reduceToNat, Int.reduceLT, Int.reduceLE, reduceCtorEq]
      · simp only
        omega
      · simp only
        rw [hf2 id (by omega) (Or.inl hid)]
        exact qm id hid
  · obtain ⟨e, M, N⟩ := s
    obtain ⟨k1, left1, ls1, hd, hI1, q12, q9, q7, qn, qD, qm⟩ := hs
    simp only at q12 q9 q7 qn qD qm
    have c1 : (((way.length - 1 + 1 : Nat) : Int) < (way.length : Int)) = False := eq_false (by omega)
    try simp only [r18_0, r18_1, r18_2, r18_3, r18_4, r18_5, r18_6, r18_7, r18_8, r18_9, r18_10, r18_11, r18_12, r18_13, r18_14, r18_15, r18_16, r18_17, r18_18, r18_19, r18_20, r18_21, r18_22, r18_23, r18_25, r18_26, r18_24, r18_27, c18, F18, l18_0, l18_1, q12, q7, hlen, c1, go_sem, Int.reduceTMod, Int.reduceTDiv, Int.reduceDiv, Int.reduceMod, Int.reduceAdd, Int.reduceSub, Int.reduceMul, Int.reduceNeg, Int.reducePow, Int.reduceEq, ↓reduceIte, Nat.reduceEqDiff, Nat.reduceAdd, Nat.reduceMul, Nat.reduceLeDiff, Nat.reduceSub, Nat.reduceLT, Int.reduceToNat, Int.reduceLT, Int.reduceLE, reduceCtorEq]
    repeat' ((first | refine FK_split (fun h_ => ?_) (fun h_ => ?_) | refine GK_split (fun h_ => ?_) (fun h_ => ?_) | refine ite_both (fun h_ => ?_) (fun h_ => ?_)) <;> (try simp only [decide_eq_true_eq, decide_eq_false_iff_not, Bool.not_true, Bool.not_false, Bool.not_eq_true', Bool.not_eq_false', Bool.not_eq_eq_eq_not, Decidable.not_not] at h_) <;> (try simp only [r18_0, r18_1, r18_2, r18_3, r18_4, r18_5, r18_6, r18_7, r18_8, r18_9, r18_10, r18_11, r18_12, r18_13, r18_14, r18_15, r18_16, r18_17, r18_18, r18_19, r18_20, r18_21, r18_22, r18_23, r18_25, r18_26, r18_24, r18_27, c18, F18, l18_0, l18_1, q12, q7, hlen, c1, h_, go_sem, Int.reduceTMod, Int.reduceTDiv, Int.reduceDiv, Int.reduceMod, Int.reduceAdd, Int.reduceSub, Int.reduceMul, Int.reduceNeg, Int.reducePow, Int.reduceEq, ↓reduceIte, Nat.reduceEqDiff, Nat.reduceAdd, Nat.reduceMul, Nat.reduceLeDiff, Nat.reduceSub, Nat.reduceLT, Int.reduceToNat, Int.reduceLT, Int.reduceLE, reduceCtorEq]))
    refine hK _ _ _ _ hd ?_ qD ?_
    · simp only [q9, go_sem, Int.reduceTMod, Int.reduceTDiv, Int.reduceDiv, Int.reduceMod, Int.reduceAdd, Int.reduceSub, Int.reduceMul, Int.reduceNeg, Int.reducePow, Int.reduceEq, ↓reduceIte, Nat.reduceEqDiff, Nat.reduceAdd, Nat.reduceMul, Nat.reduceLeDiff, Nat.reduceSub, Nat.reduceLT, Int.reduceToNat, Int.reduceLT, Int.reduceLE, reduceCtorEq]
    · have e : (1 : Int) + ((way.length - 1 : Nat) : Int) = (way.length : Int) := by omega
      rw [e] at hI1
      exact hI1

/- The pieces of a subpath walked. Conditions: those that each theorem names. -/
open Go Go.Proofs
set_option linter.unusedSimpArgs false
set_option linter.unusedVariables false

/-- The pen where a way begins. -/
def pen0 (pat : List Int) (ph : Int) (way : List Pt) : Int × Int × List (List Pt) := ((phS pat ph).1, (phS pat ph).2, if (phS pat ph).1 % 2 = 0 then (way.take 1).map (fun p => [p]) else [])
noncomputable def dashL (pat : List Int) (ph : Int) (way : List Pt) : Option (List (List Pt)) := (dashTo pat way (pen0 pat ph way) (way.length - 1)).map (·.2.2)
structure DashQ (l way : List Pt) (c : Bool) (pat : List Int) (ph : Int) (n : Nat) (x : Reg) (k : Int) (m' : Mem) (n' : Nat) : Prop where
  bad : rightB pat ph = false ∨ l.all inP = false → x = rnil ∧ k = 30
  long : rightB pat ph = true → l.all inP = true → anyLg way way.length = true → x = rnil ∧ k = 10
  none : rightB pat ph = true → l.all inP = true → anyLg way way.length = false → way = [] → x = rnil ∧ k = 0
  whole : rightB pat ph = true → l.all inP = true → anyLg way way.length = false → way ≠ [] → pat = [] →
    k = 0 ∧ ∃ id cl, x = .one (.sl id 0 1 (some 1) 2) ∧ n ≤ id ∧ id < n' ∧ m' id = some ⟨[cl, .sc (.bool c)], true⟩ ∧ RPt m' n' (.one cl) l ∧ ∀ j, sid (.one cl) = some j → n ≤ j
  many : rightB pat ph = true → l.all inP = true → anyLg way way.length = false → way ≠ [] → pat ≠ [] → dashL pat ph way = .none → x = rnil ∧ k = 36
  some : rightB pat ph = true → l.all inP = true → anyLg way way.length = false → way ≠ [] → pat ≠ [] → ∀ ls, dashL pat ph way = .some ls → k = 0 ∧ ∃ oc pid, x = .one oc ∧ n ≤ pid ∧ OSb noA pid m' n' oc ls
theorem right_pat {pat : List Int} {ph : Int} (h : rightB pat ph = true) (hne : pat ≠ []) : PatI pat ∧ 0 ≤ ph ∧ ph ≤ 8388608 := by
  unfold rightB at h
  rw [if_neg hne] at h
  split at h
  · rename_i e2
    simp only [Bool.and_eq_true, decide_eq_true_eq] at h
    have hs := sum_bd pat h.1
    exact ⟨⟨by omega, by omega, by omega, fun x hx => okD_iff.1 (List.all_eq_true.1 h.1 x hx)⟩, h.2.1, by omega⟩
  · cases h
set_option maxHeartbeats 4000000 in
theorem w_Dash {c0 pc : Cell} {l : List Pt} {c : Bool} {pat : List Int} {ph : Int} {m : Mem} {n : Nat} (hr : RPt m n (.one c0) l) (hpr : RIn m n (.one pc) pat) (hl : l.length ≤ 900000) (hpl : pat.length < 4294967296) :
    Fn TA 18 [.agg [c0, .sc (.bool c)], .agg [pc, I ph]] m n (fun r' m' n' => ∃ x k, r' = .tup [x, RI k] ∧ DashQ l (wayL l c) c pat ph n x k m' n') := by
  refine Fn_ofK (fn := F18) rfl (by simp [F18]) ?_
  obtain ⟨M0, hM0⟩ : ∃ M0, M0 = upd (upd m n (some ⟨[c0, .sc (.bool c)], true⟩)) (n + 1) (some ⟨[pc, I ph], true⟩) := ⟨_, rfl⟩
  have hf0 : ∀ id, id < n → M0 id = m id := fun id hid => by rw [hM0, upd_ne _ _ (by omega), upd_ne _ _ (by omega)]
  have hb0 : M0 n = some ⟨[c0, .sc (.bool c)], true⟩ := by rw [hM0, upd_ne _ _ (by omega), upd_same]
  have hb1 : M0 (n + 1) = some ⟨[pc, I ph], true⟩ := by rw [hM0, upd_same]
  have hr0 : RPt M0 (n + 2) (.one c0) l := hr.keep (by omega) hf0
  have hp0 : RIn M0 (n + 2) (.one pc) pat := hpr.keep (by omega) hf0
  have vC := v_Check pc pat ph (frz M0) (n + 2) hp0.frz hpl
  cases hright : rightB pat ph
  · rw [hright] at vC
    rw [hM0] at vC
    try simp only [r18_0, r18_1, r18_2, r18_3, r18_4, r18_5, r18_6, r18_7, r18_8, r18_9, r18_10, r18_11, r18_12, r18_13, r18_14, r18_15, r18_16, r18_17, r18_18, r18_19, r18_20, r18_21, r18_22, r18_23, r18_25, r18_26, r18_24, r18_27, c18, F18, vC, go_sem, Int.reduceTMod, Int.reduceTDiv, Int.reduceDiv, Int.reduceMod, Int.reduceAdd, Int.reduceSub, Int.reduceMul, Int.reduceNeg, Int.reducePow, Int.reduceEq, ↓reduceIte, Nat.reduceEqDiff, Nat.reduceAdd, Nat.reduceMul, Nat.reduceLeDiff, Nat.reduceSub, Nat.reduceLT, Int.reduceToNat, Int.reduceLT, Int.reduceLE, reduceCtorEq]
    repeat' ((first | refine FK_split (fun h_ => ?_) (fun h_ => ?_) | refine GK_split (fun h_ => ?_) (fun h_ => ?_) | refine ite_both (fun h_ => ?_) (fun h_ => ?_)) <;> (try simp only [decide_eq_true_eq, decide_eq_false_iff_not, Bool.not_true, Bool.not_false, Bool.not_eq_true', Bool.not_eq_false', Bool.not_eq_eq_eq_not, Decidable.not_not] at h_) <;> (try simp only [r18_0, r18_1, r18_2, r18_3, r18_4, r18_5, r18_6, r18_7, r18_8, r18_9, r18_10, r18_11, r18_12, r18_13, r18_14, r18_15, r18_16, r18_17, r18_18, r18_19, r18_20, r18_21, r18_22, r18_23, r18_25, r18_26, r18_24, r18_27, c18, F18, vC, h_, go_sem, Int.reduceTMod, Int.reduceTDiv, Int.reduceDiv, Int.reduceMod, Int.reduceAdd, Int.reduceSub, Int.reduceMul, Int.reduceNeg, Int.reducePow, Int.reduceEq, ↓reduceIte, Nat.reduceEqDiff, Nat.reduceAdd, Nat.reduceMul, Nat.reduceLeDiff, Nat.reduceSub, Nat.reduceLT, Int.reduceToNat, Int.reduceLT, Int.reduceLE, reduceCtorEq]))
    exact ⟨rnil, 30, rfl, ⟨fun _ => ⟨rfl, rfl⟩, fun h => (by rw [hright] at h; cases h), fun h => (by rw [hright] at h; cases h), fun h => (by rw [hright] at h; cases h), fun h => (by rw [hright] at h; cases h), fun h => (by rw [hright] at h; cases h)⟩⟩
  · rw [hright] at vC
    rw [hM0] at vC
    try simp only [r18_0, r18_1, r18_2, r18_3, r18_4, r18_5, r18_6, r18_7, r18_8, r18_9, r18_10, r18_11, r18_12, r18_13, r18_14, r18_15, r18_16, r18_17, r18_18, r18_19, r18_20, r18_21, r18_22, r18_23, r18_25, r18_26, r18_24, r18_27, c18, F18, vC, go_sem, Int.reduceTMod, Int.reduceTDiv, Int.reduceDiv, Int.reduceMod, Int.reduceAdd, Int.reduceSub, Int.reduceMul, Int.reduceNeg, Int.reducePow, Int.reduceEq, ↓reduceIte, Nat.reduceEqDiff, Nat.reduceAdd, Nat.reduceMul, Nat.reduceLeDiff, Nat.reduceSub, Nat.reduceLT, Int.reduceToNat, Int.reduceLT, Int.reduceLE, reduceCtorEq]
    repeat' ((first | refine FK_split (fun h_ => ?_) (fun h_ => ?_) | refine GK_split (fun h_ => ?_) (fun h_ => ?_) | refine ite_both (fun h_ => ?_) (fun h_ => ?_)) <;> (try simp only [decide_eq_true_eq, decide_eq_false_iff_not, Bool.not_true, Bool.not_false, Bool.not_eq_true', Bool.not_eq_false', Bool.not_eq_eq_eq_not, Decidable.not_not] at h_) <;> (try simp only [r18_0, r18_1, r18_2, r18_3, r18_4, r18_5, r18_6, r18_7, r18_8, r18_9, r18_10, r18_11, r18_12, r18_13, r18_14, r18_15, r18_16, r18_17, r18_18, r18_19, r18_20, r18_21, r18_22, r18_23, r18_25, r18_26, r18_24, r18_27, c18, F18, vC, h_, go_sem, Int.reduceTMod, Int.reduceTDiv, Int.reduceDiv, Int.reduceMod, Int.reduceAdd, Int.reduceSub, Int.reduceMul, Int.reduceNeg, Int.reducePow, Int.reduceEq, ↓reduceIte, Nat.reduceEqDiff, Nat.reduceAdd, Nat.reduceMul, Nat.reduceLeDiff, Nat.reduceSub, Nat.reduceLT, Int.reduceToNat, Int.reduceLT, Int.reduceLE, reduceCtorEq]))
    rw [← hM0]
    refine RK_callk ?_
    refine (w_Way c0 l c _ _ hr0.frz (by omega)).mono ?_
    rintro r1 m1 n1 ⟨hn1, x, k, rfl, hq1, hq2, hq3⟩
    obtain ⟨M1, hM1⟩ : ∃ M1, M1 = unfrz M0 (n + 2) m1 := ⟨_, rfl⟩
    rw [← hM1, show max (n + 2) n1 = n1 by omega]
    cases hi : l.all inP
    · obtain ⟨rfl, rfl⟩ := hq1 hi
      try simp only [r18_0, r18_1, r18_2, r18_3, r18_4, r18_5, r18_6, r18_7, r18_8, r18_9, r18_10, r18_11, r18_12, r18_13, r18_14, r18_15, r18_16, r18_17, r18_18, r18_19, r18_20, r18_21, r18_22, r18_23, r18_25, r18_26, r18_24, r18_27, c18, F18, go_sem, Int.reduceTMod, Int.reduceTDiv, Int.reduceDiv, Int.reduceMod, Int.reduceAdd, Int.reduceSub, Int.reduceMul, Int.reduceNeg, Int.reducePow, Int.reduceEq, ↓reduceIte, Nat.reduceEqDiff, Nat.reduceAdd, Nat.reduceMul, Nat.reduceLeDiff, Nat.reduceSub, Nat.reduceLT, Int.reduceToNat, Int.reduceLT, Int.reduceLE, reduceCtorEq]
      repeat' ((first | refine FK_split (fun h_ => ?_) (fun h_ => ?_) | refine GK_split (fun h_ => ?_) (fun h_ => ?_) | refine ite_both (fun h_ => ?_) (fun h_ => ?_)) <;> (try simp only [decide_eq_true_eq, decide_eq_false_iff_not, Bool.not_true, Bool.not_false, Bool.not_eq_true', Bool.not_eq_false', Bool.not_eq_eq_eq_not, Decidable.not_not] at h_) <;> (try simp only [r18_0, r18_1, r18_2, r18_3, r18_4, r18_5, r18_6, r18_7, r18_8, r18_9, r18_10, r18_11, r18_12, r18_13, r18_14, r18_15, r18_16, r18_17, r18_18, r18_19, r18_20, r18_21, r18_22, r18_23, r18_25, r18_26, r18_24, r18_27, c18, F18, h_, go_sem, Int.reduceTMod, Int.reduceTDiv, Int.reduceDiv, Int.reduceMod, Int.reduceAdd, Int.reduceSub, Int.reduceMul, Int.reduceNeg, Int.reducePow, Int.reduceEq, ↓reduceIte, Nat.reduceEqDiff, Nat.reduceAdd, Nat.reduceMul, Nat.reduceLeDiff, Nat.reduceSub, Nat.reduceLT, Int.reduceToNat, Int.reduceLT, Int.reduceLE, reduceCtorEq]))
      exact ⟨rnil, 30, rfl, ⟨fun _ => ⟨rfl, rfl⟩, fun _ h => (by rw [hi] at h; cases h), fun _ h => (by rw [hi] at h; cases h), fun _ h => (by rw [hi] at h; cases h), fun _ h => (by rw [hi] at h; cases h), fun _ h => (by rw [hi] at h; cases h)⟩⟩
    · cases hlg : anyLg (wayL l c) (wayL l c).length
      · obtain ⟨rfl, hw1, hw2⟩ := hq3 hi hlg
        have nobad : (rightB pat ph = false ∨ l.all inP = false) → False := fun h => by rcases h with h | h <;> first | (rw [hright] at h; cases h) | (rw [hi] at h; cases h)
        have nolong : anyLg (wayL l c) (wayL l c).length = true → False := fun h => by rw [hlg] at h; cases h
        have hwl := way_len l c
        have hwi := way_all (c := c) hi
        have hf1 : ∀ id, id < n + 2 → M1 id = M0 id := fun id hid => by rw [hM1, unfrz_at, if_pos hid]
        have hw3 : RPt M1 n1 x (wayL l c) := hw1.keep' (Nat.le_refl _) (fun id hid => by rw [hM1, unfrz_at, if_neg (by have := hw2 id hid; omega)])
        have hlen := hw3.len
        generalize wayL l c = way at *
        by_cases hwe : way.length = 0
        · have hwe' : way = [] := List.length_eq_zero_iff.1 hwe
          have g1 : ((way.length : Int) = 0) = True := eq_true (by omega)
          try simp only [r18_0, r18_1, r18_2, r18_3, r18_4, r18_5, r18_6, r18_7, r18_8, r18_9, r18_10, r18_11, r18_12, r18_13, r18_14, r18_15, r18_16, r18_17, r18_18, r18_19, r18_20, r18_21, r18_22, r18_23, r18_25, r18_26, r18_24, r18_27, c18, F18, hlen, g1, go_sem, Int.reduceTMod, Int.reduceTDiv, Int.reduceDiv, Int.reduceMod, Int.reduceAdd, Int.reduceSub, Int.reduceMul, Int.reduceNeg, Int.reducePow, Int.reduceEq, ↓reduceIte, Nat.reduceEqDiff, Nat.reduceAdd, Nat.reduceMul, Nat.reduceLeDiff, Nat.reduceSub, Nat.reduceLT, Int.reduceToNat, Int.reduceLT, Int.reduceLE, reduceCtorEq]
          repeat' ((first | refine FK_split (fun h_ => ?_) (fun h_ => ?_) | refine GK_split (fun h_ => ?_) (fun h_ => ?_) | refine ite_both (fun h_ => ?_) (fun h_ => ?_)) <;> (try simp only [decide_eq_true_eq, decide_eq_false_iff_not, Bool.not_true, Bool.not_false, Bool.not_eq_true', Bool.not_eq_false', Bool.not_eq_eq_eq_not, Decidable.not_not] at h_) <;> (try simp only [r18_0, r18_1, r18_2, r18_3, r18_4, r18_5, r18_6, r18_7, r18_8, r18_9, r18_10, r18_11, r18_12, r18_13, r18_14, r18_15, r18_16, r18_17, r18_18, r18_19, r18_20, r18_21, r18_22, r18_23, r18_25, r18_26, r18_24, r18_27, c18, F18, hlen, g1, h_, go_sem, Int.reduceTMod, Int.reduceTDiv, Int.reduceDiv, Int.reduceMod, Int.reduceAdd, Int.reduceSub, Int.reduceMul, Int.reduceNeg, Int.reducePow, Int.reduceEq, ↓reduceIte, Nat.reduceEqDiff, Nat.reduceAdd, Nat.reduceMul, Nat.reduceLeDiff, Nat.reduceSub, Nat.reduceLT, Int.reduceToNat, Int.reduceLT, Int.reduceLE, reduceCtorEq]))
          exact ⟨rnil, 0, rfl, ⟨fun h => (nobad h).elim, fun _ _ h => (nolong h).elim, fun _ _ _ _ => ⟨rfl, rfl⟩, fun _ _ _ h => absurd hwe' h, fun _ _ _ h => absurd hwe' h, fun _ _ _ h => absurd hwe' h⟩⟩
        · have hwe' : way ≠ [] := fun e => hwe (by rw [e]; rfl)
          have g1 : ((way.length : Int) = 0) = False := eq_false (by omega)
          have hb2 : M1 n = some ⟨[c0, .sc (.bool c)], true⟩ := by rw [hf1 n (by omega)]; exact hb0
          have hb3 : M1 (n + 1) = some ⟨[pc, I ph], true⟩ := by rw [hf1 (n + 1) (by omega)]; exact hb1
          have hr2 : RPt M1 n1 (.one c0) l := hr0.keep hn1 hf1
          have hp2 : RIn M1 n1 (.one pc) pat := hp0.keep hn1 hf1
          have hpl2 := hp2.len
          by_cases hpe : pat.length = 0
          · have hpe' : pat = [] := List.length_eq_zero_iff.1 hpe
            have g2 : ((pat.length : Int) = 0) = True := eq_true (by omega)
            try simp only [r18_0, r18_1, r18_2, r18_3, r18_4, r18_5, r18_6, r18_7, r18_8, r18_9, r18_10, r18_11, r18_12, r18_13, r18_14, r18_15, r18_16, r18_17, r18_18, r18_19, r18_20, r18_21, r18_22, r18_23, r18_25, r18_26, r18_24, r18_27, c18, F18, hlen, g1, hb2, rd_of hb2, hb3, rd_of hb3, hpl2, g2, go_sem, Int.reduceTMod, Int.reduceTDiv, Int.reduceDiv, Int.reduceMod, Int.reduceAdd, Int.reduceSub, Int.reduceMul, Int.reduceNeg, Int.reducePow, Int.reduceEq, ↓reduceIte, Nat.reduceEqDiff, Nat.reduceAdd, Nat.reduceMul, Nat.reduceLeDiff, Nat.reduceSub, Nat.reduceLT, Int.reduceToNat, Int.reduceLT, Int.reduceLE, reduceCtorEq]
            repeat' ((first | refine FK_split (fun h_ => ?_) (fun h_ => ?_) | refine GK_split (fun h_ => ?_) (fun h_ => ?_) | refine ite_both (fun h_ => ?_) (fun h_ => ?_)) <;> (try simp only [decide_eq_true_eq, decide_eq_false_iff_not, Bool.not_true, Bool.not_false, Bool.not_eq_true', Bool.not_eq_false', Bool.not_eq_eq_eq_not, Decidable.not_not] at h_) <;> (try simp only [r18_0, r18_1, r18_2, r18_3, r18_4, r18_5, r18_6, r18_7, r18_8, r18_9, r18_10, r18_11, r18_12, r18_13, r18_14, r18_15, r18_16, r18_17, r18_18, r18_19, r18_20, r18_21, r18_22, r18_23, r18_25, r18_26, r18_24, r18_27, c18, F18, hlen, g1, hb2, rd_of hb2, hb3, rd_of hb3, hpl2, g2, h_, go_sem, Int.reduceTMod, Int.reduceTDiv, Int.reduceDiv, Int.reduceMod, Int.reduceAdd, Int.reduceSub, Int.reduceMul, Int.reduceNeg, Int.reducePow, Int.reduceEq, ↓reduceIte, Nat.reduceEqDiff, Nat.reduceAdd, Nat.reduceMul, Nat.reduceLeDiff, Nat.reduceSub, Nat.reduceLT, Int.reduceToNat, Int.reduceLT, Int.reduceLE, reduceCtorEq]))
            refine RK_callk ?_
            refine (w_Clone _ l _ _ hr2.frz (by omega)).mono ?_
            rintro r2 m2 n2 ⟨hc, hn2⟩
            obtain ⟨M2, hM2⟩ : ∃ M2, M2 = unfrz M1 n1 m2 := ⟨_, rfl⟩
            rw [← hM2, show max n1 n2 = n2 by omega]
            have hb4 : M2 n = some ⟨[c0, .sc (.bool c)], true⟩ := by rw [hM2, unfrz_at, if_pos (by omega)]; exact hb2
            have hcl : ∃ cl, r2 = .one cl ∧ RPt M2 n2 (.one cl) l ∧ ∀ j, sid (.one cl) = some j → n ≤ j := by
              rcases hc with ⟨rfl, rfl⟩ | ⟨id, cap, rfl, q1, q2, q3, q4⟩
              · exact ⟨_, rfl, RL.nil, fun j hj => by cases hj⟩
              · refine ⟨_, rfl, Or.inr ⟨id, 0, cap, rfl, q2, ?_⟩, fun j hj => by simp only [sid, Option.some.injEq] at hj; omega⟩
                have hfl := flatMap_len Pt.cs 2 cs2 l
                rw [rd_of (show M2 id = some ⟨l.flatMap Pt.cs, true⟩ by rw [hM2, unfrz_at, if_neg (by omega)]; exact q3)]
                unfold rdB
                rw [if_pos (by rw [hfl]; omega), List.drop_zero, ← hfl, List.take_length]
            obtain ⟨cl, rfl, hcr, hcs⟩ := hcl
            try simp only [hb4, rd_of hb4, go_sem, Int.reduceTMod, Int.reduceTDiv, Int.reduceDiv, Int.reduceMod, Int.reduceAdd, Int.reduceSub, Int.reduceMul, Int.reduceNeg, Int.reducePow, Int.reduceEq, ↓reduceIte, Nat.reduceEqDiff, Nat.reduceAdd, Nat.reduceMul, Nat.reduceLeDiff, Nat.reduceSub, Nat.reduceLT, Int.reduceToNat, Int.reduceLT, Int.reduceLE, reduceCtorEq]
            repeat' ((first | refine FK_split (fun h_ => ?_) (fun h_ => ?_) | refine GK_split (fun h_ => ?_) (fun h_ => ?_) | refine ite_both (fun h_ => ?_) (fun h_ => ?_)) <;> (try simp only [decide_eq_true_eq, decide_eq_false_iff_not, Bool.not_true, Bool.not_false, Bool.not_eq_true', Bool.not_eq_false', Bool.not_eq_eq_eq_not, Decidable.not_not] at h_) <;> (try simp only [hb4, rd_of hb4, h_, go_sem, Int.reduceTMod, Int.reduceTDiv, Int.reduceDiv, Int.reduceMod, Int.reduceAdd, Int.reduceSub, Int.reduceMul, Int.reduceNeg, Int.reducePow, Int.reduceEq, ↓reduceIte, Nat.reduceEqDiff, Nat.reduceAdd, Nat.reduceMul, Nat.reduceLeDiff, Nat.reduceSub, Nat.reduceLT, Int.reduceToNat, Int.reduceLT, Int.reduceLE, reduceCtorEq]))
            refine ⟨_, _, rfl, ⟨fun h => (nobad h).elim, fun _ _ h => (nolong h).elim, fun _ _ _ h => absurd h hwe', fun _ _ _ _ _ => ⟨rfl, n2, cl, rfl, by omega, by omega, upd_same _ _ _, hcr.keep (by omega) (fun id hid => upd_ne _ _ (by omega)), hcs⟩, fun _ _ _ _ h => absurd hpe' h, fun _ _ _ _ h => absurd hpe' h⟩⟩
          · have hpe' : pat ≠ [] := fun e => hpe (by rw [e]; rfl)
            have g2 : ((pat.length : Int) = 0) = False := eq_false (by omega)
            obtain ⟨hP, hph⟩ := right_pat hright hpe'
            have hpo := hP.po
            obtain ⟨x0, y0, y1, y2, y3⟩ := hP.get (k := 0) (Int.le_refl _) (by omega)
            rw [Int.toNat_zero] at y0 y1
            obtain ⟨id, off, cap, b, hpc, hid, hbb, hcc⟩ := RL.int hp2 y0
            simp only [Reg.one.injEq] at hpc
            have hpcb : ∀ j, sid (.one pc) = some j → j < n := fun j hj => hpr.lt hj
            have hidn : id < n := hpcb id (by rw [hpc]; rfl)
            have d1 : ((0 : Int) < (pat.length : Int)) = True := eq_true (by omega)
            have z1 := na_0 (show n + 1 < n1 by omega)
            obtain ⟨M2, hM2⟩ : ∃ M2, M2 = upd M1 n1 (some ⟨[pc, I ph, I 0, I x0, .sc (.slice none 0 0)], true⟩) := ⟨_, rfl⟩
            have hf2 : ∀ id, id < n1 → M2 id = M1 id := fun id hid => by rw [hM2, upd_ne _ _ (by omega)]
            rw [hpc] at hb3
            rw [Nat.add_zero] at hcc
            have hpl3 : lenO (.one (.sl id off pat.length cap 1)) = .some (pat.length : Int) := rfl
            try simp only [r18_0, r18_1, r18_2, r18_3, r18_4, r18_5, r18_6, r18_7, r18_8, r18_9, r18_10, r18_11, r18_12, r18_13, r18_14, r18_15, r18_16, r18_17, r18_18, r18_19, r18_20, r18_21, r18_22, r18_23, r18_25, r18_26, r18_24, r18_27, c18, F18, hlen, g1, hb2, rd_of hb2, hb3, rd_of hb3, hpl2, hpl3, g2, d1, z1, hbb, hcc, Nat.mul_one, Int.toNat_zero, Nat.add_zero, go_sem, Int.reduceTMod, Int.reduceTDiv, Int.reduceDiv, Int.reduceMod, Int.reduceAdd, Int.reduceSub, Int.reduceMul, Int.reduceNeg, Int.reducePow, Int.reduceEq, ↓reduceIte, Nat.reduceEqDiff, Nat.reduceAdd, Nat.reduceMul, Nat.reduceLeDiff, Nat.reduceSub, Nat.reduceLT, Int.reduceToNat, Int.reduceLT, Int.reduceLE, reduceCtorEq]
            repeat' ((first | refine FK_split (fun h_ => ?_) (fun h_ => ?_) | refine GK_split (fun h_ => ?_) (fun h_ => ?_) | refine ite_both (fun h_ => ?_) (fun h_ => ?_)) <;> (try simp only [decide_eq_true_eq, decide_eq_false_iff_not, Bool.not_true, Bool.not_false, Bool.not_eq_true', Bool.not_eq_false', Bool.not_eq_eq_eq_not, Decidable.not_not] at h_) <;> (try simp only [r18_0, r18_1, r18_2, r18_3, r18_4, r18_5, r18_6, r18_7, r18_8, r18_9, r18_10, r18_11, r18_12, r18_13, r18_14, r18_15, r18_16, r18_17, r18_18, r18_19, r18_20, r18_21, r18_22, r18_23, r18_25, r18_26, r18_24, r18_27, c18, F18, hlen, g1, hb2, rd_of hb2, hb3, rd_of hb3, hpl2, hpl3, g2, d1, z1, hbb, hcc, Nat.mul_one, Int.toNat_zero, Nat.add_zero, h_, go_sem, Int.reduceTMod, Int.reduceTDiv, Int.reduceDiv, Int.reduceMod, Int.reduceAdd, Int.reduceSub, Int.reduceMul, Int.reduceNeg, Int.reducePow, Int.reduceEq, ↓reduceIte, Nat.reduceEqDiff, Nat.reduceAdd, Nat.reduceMul, Nat.reduceLeDiff, Nat.reduceSub, Nat.reduceLT, Int.reduceToNat, Int.reduceLT, Int.reduceLE, reduceCtorEq]))
            rw [← hpc] at hb3 ⊢
            rw [← hM2]
            have hp3 : RIn M2 (n1 + 1) (.one pc) pat := hp2.keep (by omega) hf2
            have hw4 : RPt M2 (n1 + 1) x way := hw3.keep (by omega) hf2
            have hwb : ∀ j, sid x = .some j → j < n1 := fun j hj => hw3.lt hj
            refine phase_loop (pid := n1) (tb := n + 1) (wr := x) hP hph hp3 (fun j hj => by have := hpcb j hj; omega) (by omega) (by omega) (by rw [hf2 _ (by omega)]; exact hb3) (by rw [hM2, upd_same, y1]) ?_ ?_ ?_ ?_ (fun s s9 s7 sp sm sn => ?_)
            · simp only [go_sem, Int.reduceTMod, Int.reduceTDiv, Int.reduceDiv, Int.reduceMod, Int.reduceAdd, Int.reduceSub, Int.reduceMul, Int.reduceNeg, Int.reducePow, Int.reduceEq, ↓reduceIte, Nat.reduceEqDiff, Nat.reduceAdd, Nat.reduceMul, Nat.reduceLeDiff, Nat.reduceSub, Nat.reduceLT, Int.reduceToNat, Int.reduceLT, Int.reduceLE, reduceCtorEq]
            · simp only [go_sem, Int.reduceTMod, Int.reduceTDiv, Int.reduceDiv, Int.reduceMod, Int.reduceAdd, Int.reduceSub, Int.reduceMul, Int.reduceNeg, Int.reducePow, Int.reduceEq, ↓reduceIte, Nat.reduceEqDiff, Nat.reduceAdd, Nat.reduceMul, Nat.reduceLeDiff, Nat.reduceSub, Nat.reduceLT, Int.reduceToNat, Int.reduceLT, Int.reduceLE, reduceCtorEq]
            · simp only [go_sem, Int.reduceTMod, Int.reduceTDiv, Int.reduceDiv, Int.reduceMod, Int.reduceAdd, Int.reduceSub, Int.reduceMul, Int.reduceNeg, Int.reducePow, Int.reduceEq, ↓reduceIte, Nat.reduceEqDiff, Nat.reduceAdd, Nat.reduceMul, Nat.reduceLeDiff, Nat.reduceSub, Nat.reduceLT, Int.reduceToNat, Int.reduceLT, Int.reduceLE, reduceCtorEq]
            · simp only [go_sem, Int.reduceTMod, Int.reduceTDiv, Int.reduceDiv, Int.reduceMod, Int.reduceAdd, Int.reduceSub, Int.reduceMul, Int.reduceNeg, Int.reducePow, Int.reduceEq, ↓reduceIte, Nat.reduceEqDiff, Nat.reduceAdd, Nat.reduceMul, Nat.reduceLeDiff, Nat.reduceSub, Nat.reduceLT, Int.reduceToNat, Int.reduceLT, Int.reduceLE, reduceCtorEq]
            · obtain ⟨e, M3, N3⟩ := s
              simp only at s9 s7 sp sm sn
              subst sn
              obtain ⟨hb1', hb2', hb3'⟩ := phS_bd hP hph.1
              have hp4 : RIn M3 (n1 + 1) (.one pc) pat := hp3.keep' (Nat.le_refl _) (fun j hj => sm j (by have := hpcb j hj; omega))
              have hw5 : RPt M3 (n1 + 1) x way := hw4.keep' (Nat.le_refl _) (fun j hj => sm j (by have := hwb j hj; omega))
              have hst : pen0 pat ph way = ((phS pat ph).1, (phS pat ph).2, if (phS pat ph).1 % 2 = 0 then (way.take 1).map (fun p => [p]) else []) := rfl
              have hdl : dashL pat ph way = (dashTo pat way (pen0 pat ph way) (way.length - 1)).map (·.2.2) := rfl
              rw [hst] at hdl
              generalize (phS pat ph).1 = k0 at *
              generalize (phS pat ph).2 = left0 at *
              have vd := v_drawn (pid := n1) (m := frz M3) (n := n1 + 1) (pc := pc) (oc := .sc (.slice none 0 0)) (ph := ph) (k := k0) (left := left0) (o := false) (by rw [frz_at, sp]; rfl) hb1'.1
              have fin : ∀ (ls : List (List Pt)), ls = (if k0 % 2 = 0 then (way.take 1).map (fun p => [p]) else []) → ∀ (M : Mem) (N : Nat), n1 + 1 ≤ N → (∀ j, j < n1 → M j = M3 j) → DPen noA n1 M N pc ph k0 left0 ls → LineI pat 1 k0 left0 ls → ∀ e : Nat → Reg, e 12 = RI 1 → e 9 = .one (.ptr n1 0) → e 7 = x →
                  XK TA (.loop l18_1) ⟨e, M, N⟩ (Kt.blk 3 (Kt.seq (.seq (.reg r18_27) .ret) (Kt.fin [SRes.tmp 4, SRes.tmp 5] fun r' m' n' => ∃ x k, r' = .tup [x, RI k] ∧ DashQ l way c pat ph n x k m' n'))) := by
                intro ls hls M N hN hMf hD hI e q12 q9 q7
                refine lines_loop hP (hp4.keep' (by omega) (fun j hj => hMf j (by have := hpcb j hj; omega))) (fun j hj => by have := hpcb j hj; omega) (hw5.keep' (by omega) (fun j hj => hMf j (hwb j hj))) hwb hwi hlg (by omega) (by omega) hD hI q12 q9 q7 (fun hn s a b => ?_) (fun k' left' ls' s hs a hD' hI' => ?_)
                · rw [hls] at hn
                  rw [hn] at hdl
                  try simp only [a, b, go_sem, Int.reduceTMod, Int.reduceTDiv, Int.reduceDiv, Int.reduceMod, Int.reduceAdd, Int.reduceSub, Int.reduceMul, Int.reduceNeg, Int.reducePow, Int.reduceEq, ↓reduceIte, Nat.reduceEqDiff, Nat.reduceAdd, Nat.reduceMul, Nat.reduceLeDiff, Nat.reduceSub, Nat.reduceLT, Int.reduceToNat, Int.reduceLT, Int.reduceLE, reduceCtorEq]
                  repeat' ((first | refine FK_split (fun h_ => ?_) (fun h_ => ?_) | refine GK_split (fun h_ => ?_) (fun h_ => ?_) | refine ite_both (fun h_ => ?_) (fun h_ => ?_)) <;> (try simp only [decide_eq_true_eq, decide_eq_false_iff_not, Bool.not_true, Bool.not_false, Bool.not_eq_true', Bool.not_eq_false', Bool.not_eq_eq_eq_not, Decidable.not_not] at h_) <;> (try simp only [a, b, h_, go_sem, Int.reduceTMod, Int.reduceTDiv, Int.reduceDiv, Int.reduceMod, Int.reduceAdd, Int.reduceSub, Int.reduceMul, Int.reduceNeg, Int.reducePow, Int.reduceEq, ↓reduceIte, Nat.reduceEqDiff, Nat.reduceAdd, Nat.reduceMul, Nat.reduceLeDiff, Nat.reduceSub, Nat.reduceLT, Int.reduceToNat, Int.reduceLT, Int.reduceLE, reduceCtorEq]))
                  exact ⟨rnil, 36, rfl, ⟨fun h => (nobad h).elim, fun _ _ h => (nolong h).elim, fun _ _ _ h => absurd h hwe', fun _ _ _ _ h => absurd h hpe', fun _ _ _ _ _ _ => ⟨rfl, rfl⟩, fun _ _ _ _ _ ls h => (by rw [hdl] at h; cases h)⟩⟩
                · rw [hls] at hs
                  rw [hs] at hdl
                  obtain ⟨oc, gp, gpn, gO⟩ := hD'
                  obtain ⟨e, M', N'⟩ := s
                  simp only at a gp gpn gO
                  try simp only [r18_0, r18_1, r18_2, r18_3, r18_4, r18_5, r18_6, r18_7, r18_8, r18_9, r18_10, r18_11, r18_12, r18_13, r18_14, r18_15, r18_16, r18_17, r18_18, r18_19, r18_20, r18_21, r18_22, r18_23, r18_25, r18_26, r18_24, r18_27, c18, F18, a, gp, go_sem, Int.reduceTMod, Int.reduceTDiv, Int.reduceDiv, Int.reduceMod, Int.reduceAdd, Int.reduceSub, Int.reduceMul, Int.reduceNeg, Int.reducePow, Int.reduceEq, ↓reduceIte, Nat.reduceEqDiff, Nat.reduceAdd, Nat.reduceMul, Nat.reduceLeDiff, Nat.reduceSub, Nat.reduceLT, Int.reduceToNat, Int.reduceLT, Int.reduceLE, reduceCtorEq]
                  repeat' ((first | refine FK_split (fun h_ => ?_) (fun h_ => ?_) | refine GK_split (fun h_ => ?_) (fun h_ => ?_) | refine ite_both (fun h_ => ?_) (fun h_ => ?_)) <;> (try simp only [decide_eq_true_eq, decide_eq_false_iff_not, Bool.not_true, Bool.not_false, Bool.not_eq_true', Bool.not_eq_false', Bool.not_eq_eq_eq_not, Decidable.not_not] at h_) <;> (try simp only [r18_0, r18_1, r18_2, r18_3, r18_4, r18_5, r18_6, r18_7, r18_8, r18_9, r18_10, r18_11, r18_12, r18_13, r18_14, r18_15, r18_16, r18_17, r18_18, r18_19, r18_20, r18_21, r18_22, r18_23, r18_25, r18_26, r18_24, r18_27, c18, F18, a, gp, h_, go_sem, Int.reduceTMod, Int.reduceTDiv, Int.reduceDiv, Int.reduceMod, Int.reduceAdd, Int.reduceSub, Int.reduceMul, Int.reduceNeg, Int.reducePow, Int.reduceEq, ↓reduceIte, Nat.reduceEqDiff, Nat.reduceAdd, Nat.reduceMul, Nat.reduceLeDiff, Nat.reduceSub, Nat.reduceLT, Int.reduceToNat, Int.reduceLT, Int.reduceLE, reduceCtorEq]))
                  refine ⟨_, _, rfl, ⟨fun h => (nobad h).elim, fun _ _ h => (nolong h).elim, fun _ _ _ h => absurd h hwe', fun _ _ _ _ h => absurd h hpe', fun _ _ _ _ _ h => (by rw [hdl] at h; cases h), fun _ _ _ _ _ ls h => ⟨rfl, oc, n1, rfl, by omega, ?_⟩⟩⟩
                  rw [hdl] at h
                  simp only [Option.map_some, Option.some.injEq] at h
                  rw [← h]
                  exact gO
              cases hd : decide (k0 % 2 = 0)
              · rw [hd] at vd
                have hk2 : ¬ (k0 % 2 = 0) := of_decide_eq_false hd
                try simp only [r18_20, r18_21, r18_22, s9, vd, go_sem, Int.reduceTMod, Int.reduceTDiv, Int.reduceDiv, Int.reduceMod, Int.reduceAdd, Int.reduceSub, Int.reduceMul, Int.reduceNeg, Int.reducePow, Int.reduceEq, ↓reduceIte, Nat.reduceEqDiff, Nat.reduceAdd, Nat.reduceMul, Nat.reduceLeDiff, Nat.reduceSub, Nat.reduceLT, Int.reduceToNat, Int.reduceLT, Int.reduceLE, reduceCtorEq]
                repeat' ((first | refine FK_split (fun h_ => ?_) (fun h_ => ?_) | refine GK_split (fun h_ => ?_) (fun h_ => ?_) | refine ite_both (fun h_ => ?_) (fun h_ => ?_)) <;> (try simp only [decide_eq_true_eq, decide_eq_false_iff_not, Bool.not_true, Bool.not_false, Bool.not_eq_true', Bool.not_eq_false', Bool.not_eq_eq_eq_not, Decidable.not_not] at h_) <;> (try simp only [r18_20, r18_21, r18_22, s9, vd, h_, go_sem, Int.reduceTMod, Int.reduceTDiv, Int.reduceDiv, Int.reduceMod, Int.reduceAdd, Int.reduceSub, Int.reduceMul, Int.reduceNeg, Int.reducePow, Int.reduceEq, ↓reduceIte, Nat.reduceEqDiff, Nat.reduceAdd, Nat.reduceMul, Nat.reduceLeDiff, Nat.reduceSub, Nat.reduceLT, Int.reduceToNat, Int.reduceLT, Int.reduceLE, reduceCtorEq]))
                refine fin [] (by rw [if_neg hk2]) _ _ (Nat.le_refl _) (fun _ _ => rfl) ⟨_, sp, by omega, OSb.nil⟩ ⟨hb1'.1, hb1'.2, by omega, hb3', fun h => absurd h hk2, by simp, fun l hl => by cases hl⟩ _ ?_ ?_ ?_
                · simp only [go_sem, Int.reduceTMod, Int.reduceTDiv, Int.reduceDiv, Int.reduceMod, Int.reduceAdd, Int.reduceSub, Int.reduceMul, Int.reduceNeg, Int.reducePow, Int.reduceEq, ↓reduceIte, Nat.reduceEqDiff, Nat.reduceAdd, Nat.reduceMul, Nat.reduceLeDiff, Nat.reduceSub, Nat.reduceLT, Int.reduceToNat, Int.reduceLT, Int.reduceLE, reduceCtorEq]
                · simp only [s9, go_sem, Int.reduceTMod, Int.reduceTDiv, Int.reduceDiv, Int.reduceMod, Int.reduceAdd, Int.reduceSub, Int.reduceMul, Int.reduceNeg, Int.reducePow, Int.reduceEq, ↓reduceIte, Nat.reduceEqDiff, Nat.reduceAdd, Nat.reduceMul, Nat.reduceLeDiff, Nat.reduceSub, Nat.reduceLT, Int.reduceToNat, Int.reduceLT, Int.reduceLE, reduceCtorEq]
                · simp only [s7, go_sem, Int.reduceTMod, Int.reduceTDiv, Int.reduceDiv, Int.reduceMod, Int.reduceAdd, Int.reduceSub, Int.reduceMul, Int.reduceNeg, Int.reducePow, Int.reduceEq, ↓reduceIte, Nat.reduceEqDiff, Nat.reduceAdd, Nat.reduceMul, Nat.reduceLeDiff, Nat.reduceSub, Nat.reduceLT, Int.reduceToNat, Int.reduceLT, Int.reduceLE, reduceCtorEq]
              · rw [hd] at vd
                have hk2 : k0 % 2 = 0 := of_decide_eq_true hd
                have hq0 : way[0]? = .some (way[0]'(by omega)) := List.getElem?_eq_getElem (by omega)
                obtain ⟨wid, woff, wcap, hwr, hwid, hwrd⟩ := hw5.at cs2 hq0
                rw [Nat.zero_mul, Nat.add_zero] at hwrd
                have ht1 : (way.take 1).map (fun p => [p]) = [[way[0]'(by omega)]] := by
                  match way, hwe with
                  | p :: t, _ => rfl
                generalize (way[0]'(by omega)) = p0 at *
                have d3 : ((0 : Int) < (way.length : Int)) = True := eq_true (by omega)
                have s7' := s7
                rw [hwr] at s7'
                try simp only [r18_20, r18_21, s9, s7', vd, sp, hwrd, lenO, d3, Int.toNat_zero, Nat.zero_mul, Nat.add_zero, go_sem, Int.reduceTMod, Int.reduceTDiv, Int.reduceDiv, Int.reduceMod, Int.reduceAdd, Int.reduceSub, Int.reduceMul, Int.reduceNeg, Int.reducePow, Int.reduceEq, ↓reduceIte, Nat.reduceEqDiff, Nat.reduceAdd, Nat.reduceMul, Nat.reduceLeDiff, Nat.reduceSub, Nat.reduceLT, Int.reduceToNat, Int.reduceLT, Int.reduceLE, reduceCtorEq]
                repeat' ((first | refine FK_split (fun h_ => ?_) (fun h_ => ?_) | refine GK_split (fun h_ => ?_) (fun h_ => ?_) | refine ite_both (fun h_ => ?_) (fun h_ => ?_)) <;> (try simp only [decide_eq_true_eq, decide_eq_false_iff_not, Bool.not_true, Bool.not_false, Bool.not_eq_true', Bool.not_eq_false', Bool.not_eq_eq_eq_not, Decidable.not_not] at h_) <;> (try simp only [r18_20, r18_21, s9, s7', vd, sp, hwrd, lenO, d3, Int.toNat_zero, Nat.zero_mul, Nat.add_zero, h_, go_sem, Int.reduceTMod, Int.reduceTDiv, Int.reduceDiv, Int.reduceMod, Int.reduceAdd, Int.reduceSub, Int.reduceMul, Int.reduceNeg, Int.reducePow, Int.reduceEq, ↓reduceIte, Nat.reduceEqDiff, Nat.reduceAdd, Nat.reduceMul, Nat.reduceLeDiff, Nat.reduceSub, Nat.reduceLT, Int.reduceToNat, Int.reduceLT, Int.reduceLE, reduceCtorEq]))
                refine K_piece (p := p0) (A := noA) (pid := n1) OSb.nil (by omega) (fun j h => h.elim) (by simp) ?_
                intro cc m' hO2 hf2 hsc
                have gp2 : m' n1 = some ⟨[pc, I ph, I k0, I left0, .sc (.slice none 0 0)], true⟩ := by rw [hf2 n1 (by omega) (Or.inl (Nat.le_refl _))]; exact sp
                try simp only [r18_22, s9, gp2, go_sem, Int.reduceTMod, Int.reduceTDiv, Int.reduceDiv, Int.reduceMod, Int.reduceAdd, Int.reduceSub, Int.reduceMul, Int.reduceNeg, Int.reducePow, Int.reduceEq, ↓reduceIte, Nat.reduceEqDiff, Nat.reduceAdd, Nat.reduceMul, Nat.reduceLeDiff, Nat.reduceSub, Nat.reduceLT, Int.reduceToNat, Int.reduceLT, Int.reduceLE, reduceCtorEq]
                repeat' ((first | refine FK_split (fun h_ => ?_) (fun h_ => ?_) | refine GK_split (fun h_ => ?_) (fun h_ => ?_) | refine ite_both (fun h_ => ?_) (fun h_ => ?_)) <;> (try simp only [decide_eq_true_eq, decide_eq_false_iff_not, Bool.not_true, Bool.not_false, Bool.not_eq_true', Bool.not_eq_false', Bool.not_eq_eq_eq_not, Decidable.not_not] at h_) <;> (try simp only [r18_22, s9, gp2, h_, go_sem, Int.reduceTMod, Int.reduceTDiv, Int.reduceDiv, Int.reduceMod, Int.reduceAdd, Int.reduceSub, Int.reduceMul, Int.reduceNeg, Int.reducePow, Int.reduceEq, ↓reduceIte, Nat.reduceEqDiff, Nat.reduceAdd, Nat.reduceMul, Nat.reduceLeDiff, Nat.reduceSub, Nat.reduceLT, Int.reduceToNat, Int.reduceLT, Int.reduceLE, reduceCtorEq]))
                refine fin [[p0]] (by rw [if_pos hk2, ht1]) _ _ (by omega) (fun j hj => ?_) ⟨cc, upd_same _ _ _, by omega, hO2.keep (Nat.le_refl _) (fun j q1 q2 q3 => upd_ne _ _ (by omega)) (fun j _ h => h)⟩ ⟨hb1'.1, hb1'.2, by omega, hb3', fun _ => by simp, by simp, fun l hl => ?_⟩ _ ?_ ?_ ?_
                · rw [upd_ne _ _ (by omega), hf2 j (by omega) (Or.inl (by omega))]
                · simp at hl
                  subst hl
                  simp only [List.length_singleton]
                  omega
                · simp only [go_sem, Int.reduceTMod, Int.reduceTDiv, Int.reduceDiv, Int.reduceMod, Int.reduceAdd, Int.reduceSub, Int.reduceMul, Int.reduceNeg, Int.reducePow, Int.reduceEq, ↓reduceIte, Nat.reduceEqDiff, Nat.reduceAdd, Nat.reduceMul, Nat.reduceLeDiff, Nat.reduceSub, Nat.reduceLT, Int.reduceToNat, Int.reduceLT, Int.reduceLE, reduceCtorEq]
                · simp only [s9, go_sem, Int.reduceTMod, Int.reduceTDiv, Int.reduceDiv, Int.reduceMod, Int.reduceAdd, Int.reduceSub, Int.reduceMul, Int.reduceNeg, Int.reducePow, Int.reduceEq, ↓reduceIte, Nat.reduceEqDiff, Nat.reduceAdd, Nat.reduceMul, Nat.reduceLeDiff, Nat.reduceSub, Nat.reduceLT, Int.reduceToNat, Int.reduceLT, Int.reduceLE, reduceCtorEq]
                · simp only [s7, go_sem, Int.reduceTMod, Int.reduceTDiv, Int.reduceDiv, Int.reduceMod, Int.reduceAdd, Int.reduceSub, Int.reduceMul, Int.reduceNeg, Int.reducePow, Int.reduceEq, ↓reduceIte, Nat.reduceEqDiff, Nat.reduceAdd, Nat.reduceMul, Nat.reduceLeDiff, Nat.reduceSub, Nat.reduceLT, Int.reduceToNat, Int.reduceLT, Int.reduceLE, reduceCtorEq]
      · obtain ⟨rfl, rfl⟩ := hq2 hi hlg
        try simp only [r18_0, r18_1, r18_2, r18_3, r18_4, r18_5, r18_6, r18_7, r18_8, r18_9, r18_10, r18_11, r18_12, r18_13, r18_14, r18_15, r18_16, r18_17, r18_18, r18_19, r18_20, r18_21, r18_22, r18_23, r18_25, r18_26, r18_24, r18_27, c18, F18, go_sem, Int.reduceTMod, Int.reduceTDiv, Int.reduceDiv, Int.reduceMod, Int.reduceAdd, Int.reduceSub, Int.reduceMul, Int.reduceNeg, Int.reducePow, Int.reduceEq, ↓reduceIte, Nat.reduceEqDiff, Nat.reduceAdd, Nat.reduceMul, Nat.reduceLeDiff, Nat.reduceSub, Nat.reduceLT, Int.reduceToNat, Int.reduceLT, Int.reduceLE, reduceCtorEq]
        repeat' ((first | refine FK_split (fun h_ => ?_) (fun h_ => ?_) | refine GK_split (fun h_ => ?_) (fun h_ => ?_) | refine ite_both (fun h_ => ?_) (fun h_ => ?_)) <;> (try simp only [decide_eq_true_eq, decide_eq_false_iff_not, Bool.not_true, Bool.not_false, Bool.not_eq_true', Bool.not_eq_false', Bool.not_eq_eq_eq_not, Decidable.not_not] at h_) <;> (try simp only [r18_0, r18_1, r18_2, r18_3, r18_4, r18_5, r18_6, r18_7, r18_8, r18_9, r18_10, r18_11, r18_12, r18_13, r18_14, r18_15, r18_16, r18_17, r18_18, r18_19, r18_20, r18_21, r18_22, r18_23, r18_25, r18_26, r18_24, r18_27, c18, F18, h_, go_sem, Int.reduceTMod, Int.reduceTDiv, Int.reduceDiv, Int.reduceMod, Int.reduceAdd, Int.reduceSub, Int.reduceMul, Int.reduceNeg, Int.reducePow, Int.reduceEq, ↓reduceIte, Nat.reduceEqDiff, Nat.reduceAdd, Nat.reduceMul, Nat.reduceLeDiff, Nat.reduceSub, Nat.reduceLT, Int.reduceToNat, Int.reduceLT, Int.reduceLE, reduceCtorEq]))
        exact ⟨rnil, 10, rfl, ⟨fun h => (by rcases h with h | h <;> first | (rw [hright] at h; cases h) | (rw [hi] at h; cases h)), fun _ _ _ => ⟨rfl, rfl⟩, fun _ _ h => (by rw [hlg] at h; cases h), fun _ _ h => (by rw [hlg] at h; cases h), fun _ _ h => (by rw [hlg] at h; cases h), fun _ _ h => (by rw [hlg] at h; cases h)⟩⟩

/- What holds of all pieces. Plain. Conditions: those that each theorem names. -/
open Go Go.Proofs
set_option linter.unusedVariables false

section
variable {P : Pt → Prop} {J : List (List Pt) → Prop} (j1 : ∀ ls p, J ls → P p → J (addL ls p)) (j2 : ∀ ls p, J ls → P p → J (ls ++ [[p]])) {pat : List Int} (hP : PatI pat)
include j1 j2
theorem nextL_J {k k' : Int} {ls : List (List Pt)} {p : Pt} (h : J ls) (hp : P p) : J (nextL k k' ls p) := by
  unfold nextL
  have h1 : J (if k % 2 = 0 then addL ls p else ls) := by
    split
    · exact j1 _ _ h hp
    · exact h
  generalize (if k % 2 = 0 then addL ls p else ls) = l1 at *
  split
  · exact j2 _ _ h1 hp
  · rw [List.append_nil]; exact h1
include hP
theorem lineGo_J {a b : Pt} {N C : Int} (hC : 1 ≤ C) (hpl : ∀ t, 0 ≤ t → t ≤ N → 0 < N → P (placeP a.x a.y b.x b.y t N)) : ∀ (f : Nat) (t k left : Int) (ls : List (List Pt)), LineI pat C k left ls → 0 ≤ t → t ≤ N → meas N t left < f → J ls → ∀ r, lineGo pat a b N f t k left ls = some r → J r.2.2.2 ∧ LineI pat C r.2.1 r.2.2.1 r.2.2.2 ∧ r.1 ≤ N ∧ ¬ r.2.2.1 < N - r.1
  | 0, _, _, _, _, _, _, _, hm, _, _, _ => by omega
  | f + 1, t, k, left, ls, hI, ht, htN, hm, hJ, r, h => by
    rw [lineGo] at h
    split at h
    · rename_i g
      split at h
      · cases h
      · rename_i g2
        have hl0 := hI.l0
        obtain ⟨x, _, x1, x2, x3⟩ := hP.at k
        have hn := hI.next hP (placeP a.x a.y b.x b.y (t + left) N) hC g2
        rw [x1] at h hn
        refine lineGo_J hC hpl f _ _ _ _ hn (by omega) (by omega) ?_ (nextL_J j1 j2 hJ (hpl _ (by omega) (by omega) (by omega))) r h
        unfold meas at hm ⊢
        split <;> split at hm <;> omega
    · rename_i g
      cases h
      exact ⟨hJ, hI, htN, g⟩
theorem lineS_J {a b : Pt} {C k left : Int} {ls : List (List Pt)} (hC : 1 ≤ C) (hN : 0 ≤ lenQ a b) (hpl : ∀ t, 0 ≤ t → t ≤ lenQ a b → 0 < lenQ a b → P (placeP a.x a.y b.x b.y t (lenQ a b))) (hb : P b) (hI : LineI pat C k left ls) (hJ : J ls) {k' left' : Int} {ls' : List (List Pt)}
    (h : lineS pat a b k left ls = some (k', left', ls')) : J ls' ∧ LineI pat (C + 1) k' left' ls' := by
  unfold lineS at h
  cases hr : lineGo pat a b (lenQ a b) (2 * (lenQ a b).toNat + 2) 0 k left ls with
  | none => rw [hr] at h; cases h
  | some r =>
    obtain ⟨t1, k1, left1, ls1⟩ := r
    obtain ⟨q1, q2, q3, q4⟩ := lineGo_J j1 j2 hP hC hpl _ 0 k left ls hI (Int.le_refl _) hN (by unfold meas; split <;> omega) hJ _ hr
    simp only at q1 q2 q3 q4
    rw [hr] at h
    simp only [lineE, Option.some.injEq, Prod.mk.injEq] at h
    obtain ⟨rfl, rfl, rfl⟩ := h
    refine ⟨?_, q2.point b (by omega) (by omega)⟩
    split
    · exact j1 _ _ q1 hb
    · exact q1
theorem dashTo_J {way : List Pt} {k left : Int} {ls : List (List Pt)} (hI : LineI pat 1 k left ls) (hJ : J ls)
    (hw : ∀ i a b, way[i]? = some a → way[i + 1]? = some b → 0 ≤ lenQ a b ∧ (∀ t, 0 ≤ t → t ≤ lenQ a b → 0 < lenQ a b → P (placeP a.x a.y b.x b.y t (lenQ a b))) ∧ P b) :
    ∀ (i : Nat) (k' left' : Int) (ls' : List (List Pt)), dashTo pat way (k, left, ls) i = some (k', left', ls') → J ls' ∧ LineI pat (1 + i) k' left' ls'
  | 0, k', left', ls', h => by
    rw [dashTo] at h
    cases h
    exact ⟨hJ, hI⟩
  | i + 1, k', left', ls', h => by
    rw [dashTo] at h
    cases hr : dashTo pat way (k, left, ls) i with
    | none => rw [hr] at h; cases h
    | some st =>
      obtain ⟨k1, left1, ls1⟩ := st
      rw [hr] at h
      obtain ⟨q1, q2⟩ := dashTo_J hI hJ hw i k1 left1 ls1 hr
      have e : (1 : Int) + ((i + 1 : Nat) : Int) = 1 + (i : Int) + 1 := by omega
      rw [e]
      simp only at h
      split at h
      · rename_i a b ha hb
        obtain ⟨w1, w2, w3⟩ := hw i a b ha hb
        exact lineS_J j1 j2 hP (by omega) w1 w2 w3 q2 q1 h
      · cases h
        exact ⟨q1, ⟨q2.k0, q2.k1, q2.l0, q2.l1, q2.ne, q2.le, fun l hl => by have := q2.bd l hl; omega⟩⟩
theorem dashL_J {way : List Pt} {ph : Int} (hph : 0 ≤ ph) (h0 : J (pen0 pat ph way).2.2) (hwe : way ≠ [])
    (hw : ∀ i a b, way[i]? = some a → way[i + 1]? = some b → 0 ≤ lenQ a b ∧ (∀ t, 0 ≤ t → t ≤ lenQ a b → 0 < lenQ a b → P (placeP a.x a.y b.x b.y t (lenQ a b))) ∧ P b) {ls : List (List Pt)} (h : dashL pat ph way = some ls) : J ls ∧ ls.length ≤ 4096 ∧ ∀ l ∈ ls, l.length < 4294967296 - 1 ∨ 1000000 < way.length := by
  obtain ⟨b1, b2, b3⟩ := phS_bd hP hph
  unfold dashL at h
  cases hr : dashTo pat way (pen0 pat ph way) (way.length - 1) with
  | none => rw [hr] at h; cases h
  | some st =>
    obtain ⟨k1, left1, ls1⟩ := st
    rw [hr] at h
    simp only [Option.map_some, Option.some.injEq] at h
    subst h
    have hI : LineI pat 1 (pen0 pat ph way).1 (pen0 pat ph way).2.1 (pen0 pat ph way).2.2 := by
      unfold pen0
      simp only
      refine ⟨b1.1, b1.2, by omega, b3, fun he => ?_, ?_, fun l hl => ?_⟩
      · rw [if_pos he]
        match way, hwe with
        | p :: t, _ => simp
      · split
        · match way, hwe with
          | p :: t, _ => simp
        · simp
      · split at hl
        · rename_i he
          rw [if_pos he]
          match way, hwe with
          | p :: t, _ =>
            simp at hl
            subst hl
            simp
            omega
        · cases hl
    obtain ⟨q1, q2⟩ := dashTo_J j1 j2 hP hI h0 hw _ k1 left1 ls1 hr
    refine ⟨q1, q2.le, fun l hl => ?_⟩
    by_cases g : 1000000 < way.length
    · exact Or.inr g
    · have := q2.bd l hl
      have := q2.le
      exact Or.inl (by omega)
end
/-- Pieces with points, all of them right. -/
def GoodL (P : Pt → Prop) (ls : List (List Pt)) : Prop := ∀ l ∈ ls, l ≠ [] ∧ ∀ p ∈ l, P p
theorem good_add {P : Pt → Prop} (ls : List (List Pt)) (p : Pt) (h : GoodL P ls) (hp : P p) : GoodL P (addL ls p) := fun l hl => by
  obtain ⟨l0, m1, m2⟩ := addL_mem ls p l hl
  obtain ⟨g1, g2⟩ := h l0 m1
  rcases m2 with rfl | rfl
  · exact ⟨g1, g2⟩
  · refine ⟨by simp, fun q hq => ?_⟩
    rw [List.mem_append, List.mem_singleton] at hq
    rcases hq with hq | rfl
    · exact g2 q hq
    · exact hp
theorem good_new {P : Pt → Prop} (ls : List (List Pt)) (p : Pt) (h : GoodL P ls) (hp : P p) : GoodL P (ls ++ [[p]]) := fun l hl => by
  rw [List.mem_append, List.mem_singleton] at hl
  rcases hl with hl | rfl
  · exact h l hl
  · exact ⟨by simp, fun q hq => by rw [List.mem_singleton] at hq; rw [hq]; exact hp⟩
/-- The first piece begins there. -/
def HdL (p0 : Pt) (ls : List (List Pt)) : Prop := ∃ t r, ls = (p0 :: t) :: r
theorem hd_add {p0 : Pt} (ls : List (List Pt)) (p : Pt) (h : HdL p0 ls) (_ : True) : HdL p0 (addL ls p) := by
  obtain ⟨t, r, rfl⟩ := h
  cases r with
  | nil => exact ⟨t ++ [p], [], rfl⟩
  | cons y r => exact ⟨t, addL (y :: r) p, rfl⟩
theorem hd_new {p0 : Pt} (ls : List (List Pt)) (p : Pt) (h : HdL p0 ls) (_ : True) : HdL p0 (ls ++ [[p]]) := by
  obtain ⟨t, r, rfl⟩ := h
  exact ⟨t, r ++ [[p]], rfl⟩
theorem pln_memD {l : List Pt} : ∀ {i : Nat} {a : Pt}, a ∈ pln l i → a ∈ l
  | 0, a, h => by cases h
  | i + 1, a, h => by
    rw [pln] at h
    split at h
    · rw [List.mem_append] at h
      rcases h with h | h
      · exact pln_memD h
      · cases hp : l[i]? with
        | none => rw [hp] at h; cases h
        | some p =>
          rw [hp] at h
          simp at h
          subst h
          exact List.mem_of_getElem? hp
    · exact pln_memD h
theorem way_mem {l : List Pt} {c : Bool} {a : Pt} (h : a ∈ wayL l c) : a ∈ l := by
  unfold wayL at h
  split at h
  · rw [List.mem_append] at h
    rcases h with h | h
    · exact pln_memD h
    · exact pln_memD (List.mem_of_mem_take h)
  · exact pln_memD h
theorem pln_head {p : Pt} {l : List Pt} : ∀ i, i ≤ l.length → ∃ t, pln (p :: l) (i + 1) = p :: t
  | 0, _ => ⟨[], by rw [pln]; simp [pln]⟩
  | i + 1, hi => by
    obtain ⟨t, ht⟩ := pln_head (p := p) (l := l) i (by omega)
    rw [pln]
    split
    · exact ⟨t ++ ((p :: l)[i + 1]?).toList, by rw [ht]; rfl⟩
    · exact ⟨t, ht⟩
theorem way_head {p : Pt} {l : List Pt} {c : Bool} : ∃ t, wayL (p :: l) c = p :: t := by
  obtain ⟨t, ht⟩ := pln_head (p := p) (l := l) l.length (Nat.le_refl _)
  unfold wayL
  rw [List.length_cons, ht]
  split
  · exact ⟨t ++ (p :: t).take 1, rfl⟩
  · exact ⟨t, rfl⟩
/-- A place on a line lies where its ends lie. -/
theorem place_box {a b : Pt} {t x0 y0 x1 y1 : Int} (hlg : longB (b.x - a.x) (b.y - a.y) = false) (ht : 0 ≤ t) (htn : t ≤ lenQ a b) (hn : 0 < lenQ a b) (ha : (x0 ≤ a.x ∧ a.x < x1) ∧ y0 ≤ a.y ∧ a.y < y1) (hb : (x0 ≤ b.x ∧ b.x < x1) ∧ y0 ≤ b.y ∧ b.y < y1) :
    (x0 ≤ (placeP a.x a.y b.x b.y t (lenQ a b)).x ∧ (placeP a.x a.y b.x b.y t (lenQ a b)).x < x1) ∧ y0 ≤ (placeP a.x a.y b.x b.y t (lenQ a b)).y ∧ (placeP a.x a.y b.x b.y t (lenQ a b)).y < y1 := by
  have hN := lenQ_bd hlg
  rw [long_iff] at hlg
  obtain ⟨_, u1, u2⟩ := at_bd ht htn hn hN.2 hlg.1
  obtain ⟨_, v1, v2⟩ := at_bd ht htn hn hN.2 hlg.2
  unfold placeP
  simp only
  rcases Int.le_total 0 (b.x - a.x) with g | g <;> rcases Int.le_total 0 (b.y - a.y) with g' | g'
  · have := u1 g; have := v1 g'; omega
  · have := u1 g; have := v2 g'; omega
  · have := u2 g; have := v1 g'; omega
  · have := u2 g; have := v2 g'; omega

/- The pieces of a way by whole distances; a pen leaves the same. Plain. Conditions: those that each theorem names. -/
open Go Go.Proofs
set_option linter.unusedVariables false

/-- Where the lengths of a pattern begin. -/
def Bk (pat : List Int) (ph : Int) : Nat → Int
  | 0 => -ph
  | k + 1 => Bk pat ph k + pat.getD (k % pat.length) 0
/-- How far the points of a way lie from its beginning. -/
noncomputable def Dw (way : List Pt) : Nat → Int
  | 0 => 0
  | i + 1 => Dw way i + (match way[i]?, way[i + 1]? with | some a, some b => lenQ a b | _, _ => 0)
noncomputable def allD (way : List Pt) : Int := Dw way (way.length - 1)
/-- The line that a distance lies in. -/
noncomputable def atI (way : List Pt) (d : Int) : Nat → Nat → Nat
  | 0, i => i
  | f + 1, i => if Dw way (i + 1) ≤ d then atI way d f (i + 1) else i
noncomputable def atP (way : List Pt) (d : Int) (i : Nat) : Pt := match way[i]?, way[i + 1]? with
  | some a, some b => placeP a.x a.y b.x b.y (d - Dw way i) (Dw way (i + 1) - Dw way i)
  | _, _ => ⟨0, 0⟩
noncomputable def atR (way : List Pt) (d : Int) : Pt := atP way d (atI way d way.length 0)
/-- The points of a way inside of a length, of those below i. -/
noncomputable def midR (way : List Pt) (b e : Int) : Nat → List Pt
  | 0 => []
  | i + 1 => midR way b e i ++ (if 1 ≤ i ∧ (b < Dw way i ∧ Dw way i ≤ e) ∧ 0 < Dw way i then (way[i]?).toList else [])
noncomputable def begR (way : List Pt) (b : Int) : List Pt := if b ≤ 0 then way.take 1 else [atR way b]
noncomputable def pieceR (way : List Pt) (b e : Int) : List Pt := begR way b ++ midR way b e way.length ++ (if e < allD way then [atR way e] else [])
noncomputable def refGo (pat : List Int) (way : List Pt) : Nat → Nat → Int → List (List Pt) → Option (List (List Pt))
  | 0, _, _, out => some out
  | f + 1, k, b, out =>
    if b < allD way then
      (if k % 2 = 0 ∧ 0 < b + pat.getD (k % pat.length) 0 then
        (if 4096 < (out ++ [pieceR way b (b + pat.getD (k % pat.length) 0)]).length then none
         else refGo pat way f (k + 1) (b + pat.getD (k % pat.length) 0) (out ++ [pieceR way b (b + pat.getD (k % pat.length) 0)]))
       else refGo pat way f (k + 1) (b + pat.getD (k % pat.length) 0) out)
    else some out
/-- A way whose lines have lengths. -/
structure WayI (way : List Pt) : Prop where
  two : 2 ≤ way.length
  len : ∀ i a b, way[i]? = some a → way[i + 1]? = some b → 1 ≤ lenQ a b
theorem WayI.step {way : List Pt} (h : WayI way) {i : Nat} (hi : i + 1 < way.length) : ∃ a b, way[i]? = some a ∧ way[i + 1]? = some b ∧ Dw way (i + 1) = Dw way i + lenQ a b ∧ 1 ≤ lenQ a b := by
  have h1 : way[i]? = some (way[i]'(by omega)) := List.getElem?_eq_getElem (by omega)
  have h2 : way[i + 1]? = some (way[i + 1]'hi) := List.getElem?_eq_getElem hi
  exact ⟨_, _, h1, h2, by rw [Dw, h1, h2], h.len i _ _ h1 h2⟩
theorem WayI.lt {way : List Pt} (h : WayI way) {i : Nat} : ∀ {j : Nat}, i < j → j < way.length → Dw way i < Dw way j
  | 0, hij, _ => by omega
  | j + 1, hij, hj => by
    obtain ⟨a, b, _, _, e, l⟩ := h.step hj
    by_cases he : i = j
    · subst he; omega
    · have := h.lt (i := i) (j := j) (by omega) (by omega)
      omega
theorem WayI.le {way : List Pt} (h : WayI way) {i j : Nat} (hij : i ≤ j) (hj : j < way.length) : Dw way i ≤ Dw way j := by
  by_cases he : i = j
  · subst he; exact Int.le_refl _
  · exact Int.le_of_lt (h.lt (by omega) hj)
theorem atI_eq {way : List Pt} (h : WayI way) {d : Int} {i : Nat} (hi : i + 1 < way.length) (h1 : Dw way i ≤ d) (h2 : d < Dw way (i + 1)) : ∀ (f j : Nat), j ≤ i → i < j + f → atI way d f j = i
  | 0, j, hj, hf => by omega
  | f + 1, j, hj, hf => by
    rw [atI]
    by_cases he : j = i
    · subst he
      rw [if_neg (by omega)]
    · rw [if_pos (by have := h.le (i := j + 1) (j := i) (by omega) (by omega); omega)]
      exact atI_eq h hi h1 h2 f (j + 1) (by omega) (by omega)
theorem atR_eq {way : List Pt} (h : WayI way) {i : Nat} {a b : Pt} {t : Int} (ha : way[i]? = some a) (hb : way[i + 1]? = some b) (h0 : 0 ≤ t) (h1 : t < lenQ a b) : atR way (Dw way i + t) = placeP a.x a.y b.x b.y t (lenQ a b) := by
  have hlt : i + 1 < way.length := (List.getElem?_eq_some_iff.1 hb).1
  have e : Dw way (i + 1) = Dw way i + lenQ a b := by rw [Dw, ha, hb]
  unfold atR
  rw [atI_eq h hlt (by omega) (by omega) way.length 0 (by omega) (by omega)]
  unfold atP
  rw [ha, hb, e]
  simp only
  congr 1 <;> omega
theorem midR_more {way : List Pt} (h : WayI way) {b e : Int} {i : Nat} (hi : i + 1 < way.length) (he : e < Dw way (i + 1)) : ∀ j, i + 1 ≤ j → j ≤ way.length → midR way b e j = midR way b e (i + 1) := by
  intro j hj hl
  induction j with
  | zero => omega
  | succ j ih =>
    by_cases e1 : j = i
    · subst e1; rfl
    · rw [midR, ih (by omega) (by omega), if_neg, List.append_nil]
      have := h.le (i := i + 1) (j := j) (by omega) (by omega)
      omega
theorem midR_ends {way : List Pt} (h : WayI way) {b e e' : Int} {i : Nat} (hi : i < way.length) (h1 : Dw way i ≤ e) (h2 : Dw way i ≤ e') : ∀ j, j ≤ i + 1 → midR way b e j = midR way b e' j
  | 0, _ => rfl
  | j + 1, hj => by
    have := h.le (i := j) (j := i) (by omega) hi
    rw [midR, midR, midR_ends h hi h1 h2 j (by omega)]
    congr 1
    by_cases g : 1 ≤ j ∧ (b < Dw way j ∧ Dw way j ≤ e) ∧ 0 < Dw way j
    · rw [if_pos g, if_pos (by omega)]
    · rw [if_neg g, if_neg (by omega)]
theorem midR_none {way : List Pt} (h : WayI way) {b e : Int} {i : Nat} (hi : i < way.length) (h1 : Dw way i ≤ b) : ∀ j, j ≤ i + 1 → midR way b e j = []
  | 0, _ => rfl
  | j + 1, hj => by
    have := h.le (i := j) (j := i) (by omega) hi
    rw [midR, midR_none h hi h1 j (by omega), if_neg (by omega)]
    rfl

/- A pen along a line leaves what whole distances tell. Plain. Conditions: those that each theorem names. -/
open Go Go.Proofs
set_option linter.unusedVariables false

section
variable {pat : List Int} (hP : PatI pat) {way : List Pt} (hW : WayI way) {ph : Int}
/-- The pen, and what is left to tell. -/
structure PenAt (pat : List Int) (way : List Pt) (ph : Int) (R : Option (List (List Pt))) (i : Nat) (t k left : Int) (ls : List (List Pt)) (kk f : Nat) (done : List (List Pt)) : Prop where
  kE : k = ((kk % pat.length : Nat) : Int)
  dE : Dw way i + t + left = Bk pat ph (kk + 1)
  l0 : 0 ≤ left
  t0 : 0 ≤ t
  bp : 0 < Bk pat ph (kk + 1)
  bt : Bk pat ph kk ≤ Dw way i + t
  lE : ls = done ++ (if kk % 2 = 0 then [begR way (Bk pat ph kk) ++ midR way (Bk pat ph kk) (Bk pat ph (kk + 1)) (i + 1)] else [])
  rE : refGo pat way f kk (Bk pat ph kk) done = R
  fE : (allD way - Bk pat ph kk).toNat < f
  le : ls.length ≤ 4096
include hP
theorem par_k (kk : Nat) : (((kk % pat.length : Nat) : Int) % 2 = 0) = (kk % 2 = 0) := by
  have hev := hP.ev
  have hpo := hP.po
  apply propext
  have h := mod_parN (k := kk) (d := pat.length) hev hpo
  omega
where mod_parN {k d : Nat} (hd : d % 2 = 0) (h0 : 0 < d) : (k % d) % 2 = k % 2 := Nat.mod_mod_of_dvd k (Nat.dvd_of_mod_eq_zero hd)
theorem nx_k (kk : Nat) : (((kk % pat.length : Nat) : Int) + 1) % (pat.length : Int) = (((kk + 1) % pat.length : Nat) : Int) := by
  have hpo := hP.po
  rw [Int.natCast_emod, Int.emod_add_emod, Int.natCast_emod]
  rfl
theorem Bk_le (ph : Int) (kk : Nat) : Bk pat ph kk + 1 ≤ Bk pat ph (kk + 1) := by
  have hpo := hP.po
  have hlt : kk % pat.length < pat.length := Nat.mod_lt _ hpo
  have e : pat.getD (kk % pat.length) 0 = pat[kk % pat.length] := by simp [List.getD, List.getElem?_eq_getElem hlt]
  have := hP.bd _ (List.getElem_mem hlt)
  rw [Bk, e]
  omega
include hW
theorem lineGo_ref {R : Option (List (List Pt))} {i : Nat} {a b : Pt} (ha : way[i]? = some a) (hb : way[i + 1]? = some b) : ∀ (f0 : Nat) (t k left : Int) (ls : List (List Pt)), (∃ kk f done, PenAt pat way ph R i t k left ls kk f done) → t < lenQ a b → meas (lenQ a b) t left < f0 →
    (lineGo pat a b (lenQ a b) f0 t k left ls = none → R = none) ∧ ∀ t' k' left' ls', lineGo pat a b (lenQ a b) f0 t k left ls = some (t', k', left', ls') → (∃ kk f done, PenAt pat way ph R i t' k' left' ls' kk f done) ∧ t' < lenQ a b ∧ ¬ left' < lenQ a b - t'
  | 0, _, _, _, _, _, _, hm => by omega
  | f0 + 1, t, k, left, ls, ⟨kk, f, done, h⟩, htN, hm => by
    have hlt : i + 1 < way.length := (List.getElem?_eq_some_iff.1 hb).1
    have eD : Dw way (i + 1) = Dw way i + lenQ a b := by rw [Dw, ha, hb]
    have hall : Dw way (i + 1) ≤ allD way := hW.le (by omega) (by omega)
    rw [lineGo]
    by_cases g : left < lenQ a b - t
    · rw [if_pos g]
      have hl0 := h.l0
      have ht0 := h.t0
      have hdE := h.dE
      have hbt := h.bt
      have hbp := h.bp
      have hB1 := Bk_le hP ph kk
      have hB2 := Bk_le hP ph (kk + 1)
      have hpp : atR way (Bk pat ph (kk + 1)) = placeP a.x a.y b.x b.y (t + left) (lenQ a b) := by
        rw [← hdE, show Dw way i + t + left = Dw way i + (t + left) by omega]
        exact atR_eq hW ha hb (by omega) (by omega)
      have hk : (k + 1) % (pat.length : Int) = (((kk + 1) % pat.length : Nat) : Int) := by rw [h.kE]; exact nx_k hP kk
      have hx : pat.getD ((k + 1) % (pat.length : Int)).toNat 0 = pat.getD ((kk + 1) % pat.length) 0 := by rw [hk, Int.toNat_natCast]
      have hp1 : (k % 2 = 0) = (kk % 2 = 0) := by rw [h.kE]; exact par_k hP kk
      have hp2 : ((k + 1) % (pat.length : Int) % 2 = 0) = ((kk + 1) % 2 = 0) := by rw [hk]; exact par_k hP (kk + 1)
      have hE2 : Bk pat ph (kk + 1) + pat.getD ((kk + 1) % pat.length) 0 = Bk pat ph (kk + 1 + 1) := rfl
      have hE1 : Bk pat ph kk + pat.getD (kk % pat.length) 0 = Bk pat ph (kk + 1) := rfl
      obtain ⟨f', rfl⟩ : ∃ f', f = f' + 1 := ⟨f - 1, by have := h.fE; omega⟩
      have hr := h.rE
      rw [refGo, if_pos (by omega), hE1] at hr
      have hfE := h.fE
      have hfe : (allD way - Bk pat ph (kk + 1)).toNat < f' := by omega
      rw [hx, ← hpp]
      have hmeas : meas (lenQ a b) (t + left) (pat.getD ((kk + 1) % pat.length) 0) < f0 := by
        unfold meas at hm ⊢
        split <;> split at hm <;> omega
      by_cases hev : kk % 2 = 0
      · have hod : ¬ ((kk + 1) % 2 = 0) := by omega
        have hls := h.lE
        rw [if_pos hev] at hls
        have hnx : nextL k ((k + 1) % (pat.length : Int)) ls (atR way (Bk pat ph (kk + 1))) = done ++ [pieceR way (Bk pat ph kk) (Bk pat ph (kk + 1))] := by
          unfold nextL
          rw [if_pos (hp1 ▸ hev), if_neg (fun e => hod (hp2 ▸ e)), List.append_nil, hls, addL_snoc]
          unfold pieceR
          rw [midR_more hW hlt (by omega) way.length (by omega) (Nat.le_refl _), if_pos (by omega)]
        rw [hnx]
        rw [if_pos ⟨hev, hbp⟩] at hr
        by_cases g2 : 4096 < (done ++ [pieceR way (Bk pat ph kk) (Bk pat ph (kk + 1))]).length
        · rw [if_pos g2] at hr ⊢
          exact ⟨fun _ => hr.symm, fun t' k' left' ls' hh => by cases hh⟩
        · rw [if_neg g2] at hr ⊢
          refine lineGo_ref ha hb f0 _ _ _ _ ⟨kk + 1, f', _, ⟨hk, by omega, by omega, by omega, by omega, by omega, by rw [if_neg hod, List.append_nil], hr, hfe, by omega⟩⟩ (by omega) hmeas
      · have hod : (kk + 1) % 2 = 0 := by omega
        have hls := h.lE
        rw [if_neg hev, List.append_nil] at hls
        have hnx : nextL k ((k + 1) % (pat.length : Int)) ls (atR way (Bk pat ph (kk + 1))) = done ++ [[atR way (Bk pat ph (kk + 1))]] := by
          unfold nextL
          rw [if_neg (fun e => hev (hp1 ▸ e)), if_pos (hp2 ▸ hod), hls]
        rw [hnx]
        rw [if_neg (fun e => hev e.1)] at hr
        have hpart : begR way (Bk pat ph (kk + 1)) ++ midR way (Bk pat ph (kk + 1)) (Bk pat ph (kk + 1 + 1)) (i + 1) = [atR way (Bk pat ph (kk + 1))] := by
          rw [midR_none hW (by omega) (by omega) (i + 1) (Nat.le_refl _), List.append_nil]
          unfold begR
          rw [if_neg (by omega)]
        by_cases g2 : 4096 < (done ++ [[atR way (Bk pat ph (kk + 1))]]).length
        · rw [if_pos g2]
          refine ⟨fun _ => ?_, fun t' k' left' ls' hh => by cases hh⟩
          obtain ⟨f'', rfl⟩ : ∃ f'', f' = f'' + 1 := ⟨f' - 1, by omega⟩
          rw [refGo, if_pos (by omega), hE2, if_pos ⟨hod, by omega⟩, if_pos (by rw [List.length_append] at g2 ⊢; exact g2)] at hr
          exact hr.symm
        · rw [if_neg g2]
          refine lineGo_ref ha hb f0 _ _ _ _ ⟨kk + 1, f', done, ⟨hk, by omega, by omega, by omega, by omega, by omega, by rw [if_pos hod, hpart], hr, hfe, by omega⟩⟩ (by omega) hmeas
    · rw [if_neg g]
      exact ⟨fun hh => (by cases hh), fun t' k' left' ls' hh => by cases hh; exact ⟨⟨kk, f, done, h⟩, htN, g⟩⟩
end

/- A pen along a way leaves what whole distances tell. Plain. Conditions: those that each theorem names. -/
open Go Go.Proofs
set_option linter.unusedVariables false

section
variable {pat : List Int} (hP : PatI pat) {way : List Pt} (hW : WayI way) {ph : Int}
include hP hW
theorem lineS_ref {R : Option (List (List Pt))} {i : Nat} {a b : Pt} (ha : way[i]? = some a) (hb : way[i + 1]? = some b) {k left : Int} {ls : List (List Pt)} (h : ∃ kk f done, PenAt pat way ph R i 0 k left ls kk f done) :
    (lineS pat a b k left ls = none → R = none) ∧ ∀ k' left' ls', lineS pat a b k left ls = some (k', left', ls') → ∃ kk f done, PenAt pat way ph R (i + 1) 0 k' left' ls' kk f done ∧ Bk pat ph kk < Dw way (i + 1) := by
  have hlt : i + 1 < way.length := (List.getElem?_eq_some_iff.1 hb).1
  have eD : Dw way (i + 1) = Dw way i + lenQ a b := by rw [Dw, ha, hb]
  have hN := hW.len i a b ha hb
  obtain ⟨g1, g2⟩ := lineGo_ref hP hW ha hb (2 * (lenQ a b).toNat + 2) 0 k left ls h (by omega) (by unfold meas; split <;> omega)
  unfold lineS
  cases hr : lineGo pat a b (lenQ a b) (2 * (lenQ a b).toNat + 2) 0 k left ls with
  | none => exact ⟨fun _ => g1 hr, fun k' left' ls' hh => by cases hh⟩
  | some r =>
    obtain ⟨t1, k1, left1, ls1⟩ := r
    obtain ⟨⟨kk, f, done, h1⟩, ht, hl⟩ := g2 t1 k1 left1 ls1 hr
    refine ⟨fun hh => (by cases hh), fun k' left' ls' hh => ?_⟩
    simp only [lineE, Option.some.injEq, Prod.mk.injEq] at hh
    obtain ⟨rfl, rfl, rfl⟩ := hh
    have hdE := h1.dE
    have hbt := h1.bt
    have hl0 := h1.l0
    have ht0 := h1.t0
    have hp1 : (k1 % 2 = 0) = (kk % 2 = 0) := by rw [h1.kE]; exact par_k hP kk
    have hD0 : 0 < Dw way (i + 1) := hW.lt (i := 0) (j := i + 1) (by omega) hlt
    refine ⟨kk, f, done, ⟨h1.kE, by omega, by omega, Int.le_refl _, h1.bp, by omega, ?_, h1.rE, h1.fE, ?_⟩, by omega⟩
    · by_cases hev : kk % 2 = 0
      · have hls := h1.lE
        rw [if_pos hev] at hls
        rw [if_pos (hp1 ▸ hev), if_pos hev, hls, addL_snoc]
        have e : midR way (Bk pat ph kk) (Bk pat ph (kk + 1)) (i + 1 + 1) = midR way (Bk pat ph kk) (Bk pat ph (kk + 1)) (i + 1) ++ [b] := by
          rw [midR, if_pos (by omega), hb]
          rfl
        rw [e, List.append_assoc]
      · have hls := h1.lE
        rw [if_neg hev] at hls
        rw [if_neg (fun e => hev (hp1 ▸ e)), if_neg hev]
        exact hls
    · have := h1.le
      split
      · rw [addL_len]; exact this
      · exact this
theorem dashTo_ref {R : Option (List (List Pt))} {k left : Int} {ls : List (List Pt)} (h : ∃ kk f done, PenAt pat way ph R 0 0 k left ls kk f done) : ∀ i, i + 1 ≤ way.length →
    (dashTo pat way (k, left, ls) i = none → R = none) ∧ ∀ k' left' ls', dashTo pat way (k, left, ls) i = some (k', left', ls') → ∃ kk f done, PenAt pat way ph R i 0 k' left' ls' kk f done ∧ (1 ≤ i → Bk pat ph kk < Dw way i)
  | 0, _ => ⟨fun hh => (by cases hh), fun k' left' ls' hh => by
      rw [dashTo] at hh
      cases hh
      obtain ⟨kk, f, done, h1⟩ := h
      exact ⟨kk, f, done, h1, fun h => by omega⟩⟩
  | i + 1, hi => by
    obtain ⟨q1, q2⟩ := dashTo_ref h i (by omega)
    rw [dashTo]
    cases hr : dashTo pat way (k, left, ls) i with
    | none => exact ⟨fun _ => q1 hr, fun k' left' ls' hh => by cases hh⟩
    | some st =>
      obtain ⟨k1, left1, ls1⟩ := st
      obtain ⟨kk, f, done, h1, _⟩ := q2 k1 left1 ls1 hr
      obtain ⟨a, b, ha, hb, _, _⟩ := hW.step (i := i) (by omega)
      simp only [ha, hb]
      obtain ⟨g1, g2⟩ := lineS_ref hP hW ha hb ⟨kk, f, done, h1⟩
      refine ⟨g1, fun k' left' ls' hh => ?_⟩
      obtain ⟨kk', f', done', h2, h3⟩ := g2 k' left' ls' hh
      exact ⟨kk', f', done', h2, fun _ => h3⟩
omit hP in
theorem all_pos : 1 ≤ allD way := by
  have h2 := hW.two
  exact hW.lt (i := 0) (j := way.length - 1) (by omega) (by omega)
theorem phGo_ref : ∀ (f : Nat) (t k : Int) (kk g : Nat), k = ((kk % pat.length : Nat) : Int) → t = -(Bk pat ph kk) → 0 ≤ t → t.toNat < f → (allD way - Bk pat ph kk).toNat < g →
    ∃ kk' g', (phGo pat f t k).1 = ((kk' % pat.length : Nat) : Int) ∧ (phGo pat f t k).2 = Bk pat ph (kk' + 1) ∧ Bk pat ph kk' ≤ 0 ∧ 0 < Bk pat ph (kk' + 1) ∧ (allD way - Bk pat ph kk').toNat < g' ∧ refGo pat way g kk (Bk pat ph kk) [] = refGo pat way g' kk' (Bk pat ph kk') []
  | 0, _, _, _, _, _, _, _, hf, _ => by omega
  | f + 1, t, k, kk, g, hk, ht, h0, hf, hg => by
    have hpo := hP.po
    have hx : pat.getD k.toNat 0 = pat.getD (kk % pat.length) 0 := by rw [hk, Int.toNat_natCast]
    have hE : Bk pat ph kk + pat.getD (kk % pat.length) 0 = Bk pat ph (kk + 1) := rfl
    have hB := Bk_le hP ph kk
    have hall := all_pos hW
    rw [phGo, hx]
    by_cases c : t < pat.getD (kk % pat.length) 0
    · rw [if_pos c]
      exact ⟨kk, g, hk, by simp only; omega, by omega, by omega, hg, rfl⟩
    · rw [if_neg c]
      obtain ⟨g', rfl⟩ : ∃ g', g = g' + 1 := ⟨g - 1, by omega⟩
      obtain ⟨kk', g'', q1, q2, q3, q4, q5, q6⟩ := phGo_ref f (t - pat.getD (kk % pat.length) 0) ((k + 1) % pat.length) (kk + 1) g' (by rw [hk]; exact nx_k hP kk) (by omega) (by omega) (by omega) (by omega)
      refine ⟨kk', g'', q1, q2, q3, q4, q5, ?_⟩
      rw [refGo, if_pos (by omega), hE, if_neg (by omega)]
      exact q6
/-- What a pen leaves of a way, by whole distances. -/
theorem dashL_ref (hph : 0 ≤ ph) : dashL pat ph way = refGo pat way ((allD way + ph).toNat + 1) 0 (-ph) [] := by
  have h2 := hW.two
  have hpo := hP.po
  obtain ⟨kk, g, e1, e2, e3, e4, e5, e6⟩ := phGo_ref hP hW (ph := ph) (ph.toNat + 1) ph 0 0 ((allD way + ph).toNat + 1) (by simp) (by simp [Bk]) hph (by omega) (by show (allD way - -ph).toNat < _; omega)
  obtain ⟨R, hR⟩ : ∃ R, R = refGo pat way ((allD way + ph).toNat + 1) 0 (-ph) [] := ⟨_, rfl⟩
  rw [← hR]
  have hR2 : refGo pat way g kk (Bk pat ph kk) [] = R := by rw [hR, ← e6]; rfl
  have ht1 : (way.take 1).map (fun p => [p]) = [way.take 1] := by
    match way, h2 with
    | p :: t, _ => rfl
  have hst : ∃ kk f done, PenAt pat way ph R 0 0 (phS pat ph).1 (phS pat ph).2 (if (phS pat ph).1 % 2 = 0 then (way.take 1).map (fun p => [p]) else []) kk f done := by
    have hp1 : ((phS pat ph).1 % 2 = 0) = (kk % 2 = 0) := by
      rw [show (phS pat ph).1 = ((kk % pat.length : Nat) : Int) from e1]; exact par_k hP kk
    refine ⟨kk, g, [], ⟨e1, ?_, ?_, Int.le_refl _, e4, ?_, ?_, hR2, e5, ?_⟩⟩
    · rw [show (phS pat ph).2 = Bk pat ph (kk + 1) from e2]; simp [Dw]
    · rw [show (phS pat ph).2 = Bk pat ph (kk + 1) from e2]; omega
    · simp only [Dw]; omega
    · rw [List.nil_append]
      by_cases hev : kk % 2 = 0
      · rw [if_pos (hp1 ▸ hev), if_pos hev, ht1]
        have e : midR way (Bk pat ph kk) (Bk pat ph (kk + 1)) (0 + 1) = [] := by
          rw [midR, if_neg (by omega)]
          rfl
        rw [e, List.append_nil]
        unfold begR
        rw [if_pos e3]
      · rw [if_neg (fun e => hev (hp1 ▸ e)), if_neg hev]
    · split
      · rw [ht1]; simp
      · simp
  obtain ⟨g1, g2⟩ := dashTo_ref hP hW hst (way.length - 1) (by omega)
  unfold dashL pen0
  cases hr : dashTo pat way ((phS pat ph).1, (phS pat ph).2, if (phS pat ph).1 % 2 = 0 then (way.take 1).map (fun p => [p]) else []) (way.length - 1) with
  | none => rw [g1 hr]; rfl
  | some st =>
    obtain ⟨k1, left1, ls1⟩ := st
    obtain ⟨kk1, f1, done1, h1, h3⟩ := g2 k1 left1 ls1 hr
    have h3' := h3 (by omega)
    have hdE := h1.dE
    have hl0 := h1.l0
    have hbp := h1.bp
    have hE : Bk pat ph kk1 + pat.getD (kk1 % pat.length) 0 = Bk pat ph (kk1 + 1) := rfl
    have hall : Dw way (way.length - 1) = allD way := rfl
    obtain ⟨f', rfl⟩ : ∃ f', f1 = f' + 1 := ⟨f1 - 1, by have := h1.fE; omega⟩
    have hrE := h1.rE
    have hle := h1.le
    have hls := h1.lE
    have stop : ∀ out, refGo pat way f' (kk1 + 1) (Bk pat ph (kk1 + 1)) out = some out := fun out => by
      cases f' with
      | zero => rfl
      | succ f' => rw [refGo, if_neg (by omega)]
    rw [refGo, if_pos (by omega), hE] at hrE
    simp only [Option.map_some]
    by_cases hev : kk1 % 2 = 0
    · rw [if_pos hev] at hls
      have hpc : pieceR way (Bk pat ph kk1) (Bk pat ph (kk1 + 1)) = begR way (Bk pat ph kk1) ++ midR way (Bk pat ph kk1) (Bk pat ph (kk1 + 1)) (way.length - 1 + 1) := by
        unfold pieceR
        rw [if_neg (by omega), List.append_nil, show way.length - 1 + 1 = way.length by omega]
      rw [if_pos ⟨hev, hbp⟩, hpc, ← hls, if_neg (by omega), stop] at hrE
      exact hrE
    · rw [if_neg hev, List.append_nil] at hls
      rw [if_neg (fun e => hev e.1), stop, ← hls] at hrE
      exact hrE
end

/- Rows without repeated points: neighbours differ. Conditions: those that each theorem names. -/
open Go Go.Proofs
set_option linter.unusedSimpArgs false
set_option linter.unusedVariables false

theorem pln_last {l : List Pt} : ∀ {i : Nat}, 0 < i → i ≤ l.length → 0 < (pln l i).length ∧ (pln l i)[(pln l i).length - 1]? = l[i - 1]?
  | 0, h, _ => absurd h (by decide)
  | i + 1, _, h => by
    have hp : l[i]? = some l[i] := List.getElem?_eq_getElem (by omega)
    rw [pln]
    split
    · rw [hp]
      simp
    · rename_i hn
      have h0 : i ≠ 0 := fun e => hn (Or.inl e)
      have he : l[i]? = l[i - 1]? := Classical.byContradiction fun e => hn (Or.inr e)
      have := pln_last (l := l) (i := i) (by omega) (by omega)
      rw [show i + 1 - 1 = i by omega, he]
      exact this
theorem pln_adj {l : List Pt} : ∀ {i : Nat}, i ≤ l.length → ∀ j p q, (pln l i)[j]? = some p → (pln l i)[j + 1]? = some q → p ≠ q
  | 0, _, j, p, q, h, _ => by simp [pln] at h
  | i + 1, hi, j, p, q, hp, hq => by
    have hx : l[i]? = some l[i] := List.getElem?_eq_getElem (by omega)
    rw [pln] at hp hq
    split at hp
    · rename_i hc
      rw [if_pos hc] at hq
      rw [hx] at hp hq
      simp only [Option.toList_some] at hp hq
      rcases Nat.lt_trichotomy (j + 1) (pln l i).length with h | h | h
      · rw [List.getElem?_append_left (by omega)] at hp hq
        exact pln_adj (by omega) j p q hp hq
      · rw [List.getElem?_append_left (by omega)] at hp
        rw [List.getElem?_append_right (by omega), show j + 1 - (pln l i).length = 0 by omega] at hq
        simp only [List.getElem?_cons_zero, Option.some.injEq] at hq
        by_cases h0 : i = 0
        · subst h0
          simp [pln] at h
        · have hl := (pln_last (l := l) (i := i) (by omega) (by omega)).2
          rw [show (pln l i).length - 1 = j by omega, hp] at hl
          have hne := hc.resolve_left h0
          rw [hx, ← hl] at hne
          intro e
          apply hne
          rw [e, ← hq]
      · rw [List.getElem?_append_right (by omega)] at hq
        have : ([l[i]] : List Pt)[j + 1 - (pln l i).length]? = none := List.getElem?_eq_none (by simp; omega)
        rw [this] at hq
        cases hq
    · rename_i hc
      rw [if_neg hc] at hq
      exact pln_adj (by omega) j p q hp hq

/- The lines of a way have lengths. Plain. Conditions: those that each theorem names. -/
open Go Go.Proofs
set_option linter.unusedVariables false

theorem way_adj {l : List Pt} {c : Bool} {i : Nat} {p q : Pt} (hp : (wayL l c)[i]? = some p) (hq : (wayL l c)[i + 1]? = some q) : p ≠ q := by
  unfold wayL at hp hq
  split at hp
  · rename_i g
    rw [if_pos g] at hq
    obtain ⟨_, g1, g2⟩ := g
    have hlt : i + 1 < (pln l l.length ++ (pln l l.length).take 1).length := (List.getElem?_eq_some_iff.1 hq).1
    rw [List.length_append, List.length_take] at hlt
    by_cases hi : i + 1 < (pln l l.length).length
    · rw [List.getElem?_append_left (by omega)] at hp
      rw [List.getElem?_append_left hi] at hq
      exact pln_adj (Nat.le_refl _) i p q hp hq
    · have hi2 : i = (pln l l.length).length - 1 := by omega
      rw [List.getElem?_append_left (by omega)] at hp
      rw [List.getElem?_append_right (by omega)] at hq
      rw [show i + 1 - (pln l l.length).length = 0 by omega, List.getElem?_take_of_lt (by decide)] at hq
      intro e
      subst e
      rw [hi2] at hp
      exact g2 (hp.trans hq.symm)
  · rename_i g
    rw [if_neg g] at hq
    exact pln_adj (Nat.le_refl _) i p q hp hq
theorem lenQ_pos {a b : Pt} (hab : a ≠ b) (hl : longB (b.x - a.x) (b.y - a.y) = false) : 1 ≤ lenQ a b := by
  have sq := sq_bd hl
  have hn : 0 ≤ (b.x - a.x) * (b.x - a.x) + (b.y - a.y) * (b.y - a.y) := by omega
  obtain ⟨s1, s2, s3⟩ := isq_spec hn
  unfold lenQ
  rcases Int.lt_or_le 0 (isq ((b.x - a.x) * (b.x - a.x) + (b.y - a.y) * (b.y - a.y))) with g | g
  · omega
  · exfalso
    have e : isq ((b.x - a.x) * (b.x - a.x) + (b.y - a.y) * (b.y - a.y)) = 0 := by omega
    rw [e] at s3
    simp only [Int.zero_add, Int.mul_one] at s3
    have hx : b.x - a.x = 0 := by
      rcases Int.lt_trichotomy (b.x - a.x) 0 with h | h | h
      · have : 0 < (b.x - a.x) * (b.x - a.x) := Int.mul_pos_of_neg_of_neg h h
        omega
      · exact h
      · have : 0 < (b.x - a.x) * (b.x - a.x) := Int.mul_pos h h
        omega
    have hy : b.y - a.y = 0 := by
      rcases Int.lt_trichotomy (b.y - a.y) 0 with h | h | h
      · have : 0 < (b.y - a.y) * (b.y - a.y) := Int.mul_pos_of_neg_of_neg h h
        omega
      · exact h
      · have : 0 < (b.y - a.y) * (b.y - a.y) := Int.mul_pos h h
        omega
    refine hab ?_
    cases a; cases b
    simp only at hx hy
    congr 1 <;> omega
theorem way_I {l : List Pt} {c : Bool} (hg : anyLg (wayL l c) (wayL l c).length = false) (h2 : 2 ≤ (wayL l c).length) : WayI (wayL l c) :=
  ⟨h2, fun i a b ha hb => lenQ_pos (way_adj ha hb) (lg_at hg ha hb)⟩

/- Rows of polygons, of the call's own. Conditions: those that each theorem names. -/
open Go Go.Proofs
set_option linter.unusedSimpArgs false
set_option linter.unusedVariables false

def encC (c : Cell) : List Cell := [c]
theorem cc1 (c : Cell) : (encC c).length = 1 := rfl
theorem encC_all (l : List Cell) : l.flatMap encC = l := by
  induction l with
  | nil => rfl
  | cons x l ih => rw [List.flatMap_cons, ih]; rfl
/-- One record more, in a block of its own. -/
theorem K_push2 {T : Nat → Option SFun} {α : Type} {enc : α → List Cell} {sz : Nat} (hsz : ∀ x, (enc x).length = sz) (hpos : 0 < sz) {base n0 n : Nat} {m0 m : Mem} {r0 : Reg} {l : List α} {p : α} {j by' : Nat} {o : Bool} {d : Option Nat} {os : List SOper} {e : Nat → Reg} {k : Kt}
    (ho : OL enc sz base m0 n0 r0 l) (hn : n0 ≤ n) (hm : ∀ id, base ≤ id → id < n0 → m id = m0 id) (hj : m j = some ⟨enc p, o⟩) (hsm : l.length + 1 ≤ 4294967296) (hbase : base ≤ n)
    (next : ∀ c m', OL enc sz base m' (n + 1) (.one c) (l ++ [p]) → (∀ id, id < n → sid r0 ≠ some id → m' id = m id) → (∀ id, sid (.one c) = some id → id = n) → RK T os (putE e d (.one c)) m' (n + 1) k) :
    ThenK T d os e k (evApp m n sz by' r0 (.one (.sl j 0 1 (some 1) sz))) := by
  have hx : newsOf m sz (.one (.sl j 0 1 (some 1) sz)) = some (1, enc p) := by
    simp only [newsOf, if_true]
    rw [rd_of hj]
    simp [rdB, hsz]
    exact List.take_of_length_le (by rw [hsz]; exact Nat.le_refl _)
  rcases ho with ⟨rfl, rfl⟩ | ⟨id, rfl, h2, h3, h4⟩
  · simp only [evApp, hx]
    rw [if_neg (by omega), if_pos (by omega)]
    refine next _ _ (Or.inr ⟨n, rfl, hbase, by omega, ?_⟩) (fun id hid _ => upd_ne _ _ (by omega)) (fun id h => ?_)
    · rw [upd_same]
      simp
    · simp only [sid, Option.some.injEq] at h; exact h.symm
  · have h5 : m id = some ⟨l.flatMap enc, true⟩ := by rw [hm id h2 h3]; exact h4
    have hl := flatMap_len enc sz hsz l
    have h6 : rd m id 0 (l.length * sz) = some (l.flatMap enc) := by
      rw [rd_of h5]
      unfold rdB
      rw [if_pos (by rw [hl]; omega), List.drop_zero, ← hl, List.take_length]
    simp only [evApp, hx, if_true, h5, h6, Option.map_some, true_and, if_pos hsm]
    refine next _ _ (Or.inr ⟨n, by simp, hbase, by omega, ?_⟩) (fun i hi hs => ?_) (fun id h => ?_)
    · rw [upd_same]; simp
    · rw [upd_ne _ _ (by omega), upd_ne _ _ (fun e => hs (by rw [e]; rfl))]
    · simp only [sid, Option.some.injEq] at h; exact h.symm
/-- A slice of the call's own, of polygons of its own. -/
def OPs (pid u v : Nat) (m : Mem) (n : Nat) (r : Reg) (ls : List (List Pt)) : Prop :=
  ∃ cs : List Cell, OL encC 1 (pid + 1) m n r cs ∧ (∀ j, sid r = some j → j ≠ u ∧ j ≠ v) ∧ cs.length = ls.length ∧ ∀ (i : Nat) (l : List Pt), ls[i]? = some l → ∃ c, cs[i]? = some c ∧ RPt m n (.one c) l ∧ ∀ j, sid (.one c) = some j → (pid + 1 ≤ j ∧ j ≠ u ∧ j ≠ v) ∧ sid r ≠ some j
theorem OL.sidlt {α : Type} {enc : α → List Cell} {sz base : Nat} {m : Mem} {n : Nat} {r : Reg} {l : List α} (h : OL enc sz base m n r l) {id : Nat} (hi : sid r = some id) : base ≤ id ∧ id < n := by
  rcases h with ⟨rfl, _⟩ | ⟨id', rfl, h2, h3, _⟩
  · cases hi
  · simp only [sid, Option.some.injEq] at hi; omega
/-- One polygon more in the row. -/
theorem OPs.snoc {pid u v : Nat} {m m' : Mem} {n n' : Nat} {r r' : Reg} {ls : List (List Pt)} {cs : List Cell} {x : Cell} {l : List Pt}
    (hlen : cs.length = ls.length) (hel : ∀ (i : Nat) (l : List Pt), ls[i]? = some l → ∃ c, cs[i]? = some c ∧ RPt m n (.one c) l ∧ ∀ j, sid (.one c) = some j → (pid + 1 ≤ j ∧ j ≠ u ∧ j ≠ v) ∧ sid r ≠ some j)
    (hx : RPt m n (.one x) l) (hxs : ∀ j, sid (.one x) = some j → (pid + 1 ≤ j ∧ j ≠ u ∧ j ≠ v) ∧ sid r ≠ some j) (ho : OL encC 1 (pid + 1) m' n' r' (cs ++ [x])) (hu : u < n) (hv : v < n) (hn : n ≤ n') (hs : ∀ id, sid r' = some id → n ≤ id)
    (hf : ∀ id, pid + 1 ≤ id → id < n → sid r ≠ some id → m' id = m id) : OPs pid u v m' n' r' (ls ++ [l]) := by
  refine ⟨cs ++ [x], ho, fun j hj => by have := hs j hj; omega, by simp [hlen], fun i k hi => ?_⟩
  have keep : ∀ (c : Cell) (l : List Pt), RPt m n (.one c) l → (∀ j, sid (.one c) = some j → (pid + 1 ≤ j ∧ j ≠ u ∧ j ≠ v) ∧ sid r ≠ some j) → RPt m' n' (.one c) l ∧ ∀ j, sid (.one c) = some j → (pid + 1 ≤ j ∧ j ≠ u ∧ j ≠ v) ∧ sid r' ≠ some j := fun c l h1 h2 => by
    refine ⟨h1.keep' hn (fun id hid => hf id (h2 id hid).1.1 (h1.lt hid) (h2 id hid).2), fun j hj => ⟨(h2 j hj).1, fun h => ?_⟩⟩
    have := hs j h
    have := h1.lt hj
    omega
  rcases Nat.lt_or_ge i ls.length with h | h
  · rw [List.getElem?_append_left h] at hi
    obtain ⟨c, h1, h2, h3⟩ := hel i k hi
    obtain ⟨h4, h5⟩ := keep c k h2 h3
    exact ⟨c, by rw [List.getElem?_append_left (by omega)]; exact h1, h4, h5⟩
  · rw [List.getElem?_append_right h] at hi
    obtain ⟨h4, h5⟩ := keep x l hx hxs
    have hi0 : i - ls.length = 0 := by
      rcases Nat.eq_zero_or_pos (i - ls.length) with e | e
      · exact e
      · rw [List.getElem?_eq_none (by simp; omega)] at hi; cases hi
    rw [hi0] at hi
    simp only [List.getElem?_cons_zero, Option.some.injEq] at hi
    subst hi
    exact ⟨x, by rw [List.getElem?_append_right (by omega), hlen, hi0]; rfl, h4, h5⟩
theorem OPs.keep {pid u v : Nat} {m m' : Mem} {n n' : Nat} {r : Reg} {ls : List (List Pt)} (h : OPs pid u v m n r ls) (hn : n ≤ n') (hf : ∀ id, pid + 1 ≤ id → id < n → id ≠ u → id ≠ v → m' id = m id) : OPs pid u v m' n' r ls := by
  obtain ⟨cs, h1, h0, h2, h3⟩ := h
  refine ⟨cs, ?_, h0, h2, fun i l hi => ?_⟩
  · rcases h1 with h1 | ⟨id, k1, k2, k3, k4⟩
    · exact Or.inl h1
    · have := h0 id (by rw [k1]; rfl)
      exact Or.inr ⟨id, k1, k2, by omega, by rw [hf id k2 k3 this.1 this.2]; exact k4⟩
  · obtain ⟨c, k1, k2, k3⟩ := h3 i l hi
    exact ⟨c, k1, k2.keep' hn (fun id hid => hf id (k3 id hid).1.1 (k2.lt hid) (k3 id hid).1.2.1 (k3 id hid).1.2.2), k3⟩
theorem OPs.avoid {pid u v u' v' : Nat} {m : Mem} {n : Nat} {r : Reg} {ls : List (List Pt)} (h : OPs pid u v m n r ls) (hu : n ≤ u' ∨ u' ≤ pid) (hv : n ≤ v' ∨ v' ≤ pid) : OPs pid u' v' m n r ls := by
  obtain ⟨cs, h1, h0, h2, h3⟩ := h
  refine ⟨cs, h1, fun j hj => by have := h1.sidlt hj; omega, h2, fun i l hi => ?_⟩
  obtain ⟨c, k1, k2, k3⟩ := h3 i l hi
  exact ⟨c, k1, k2, fun j hj => ⟨by have := (k3 j hj).1; have := k2.lt hj; omega, (k3 j hj).2⟩⟩
theorem OPs.nil {p u v : Nat} {m : Mem} {n : Nat} : OPs p u v m n rnil [] := ⟨[], OL.nil, fun j hj => (by cases hj), rfl, fun i l hi => (by simp at hi)⟩
/-- The polygon i of a row. -/
theorem OPs.at {p u v : Nat} {m : Mem} {n : Nat} {r : Reg} {ls : List (List Pt)} (h : OPs p u v m n r ls) {i : Nat} {l : List Pt} (hi : ls[i]? = some l) :
    ∃ id b c, r = .one (.sl id 0 ls.length none 1) ∧ id < n ∧ m id = some b ∧ b.cells[i]? = some c ∧ RPt m n (.one c) l := by
  obtain ⟨cs, h1, h0, h2, h3⟩ := h
  obtain ⟨c, k1, k2, k3⟩ := h3 i l hi
  rcases h1 with ⟨_, e⟩ | ⟨id, e1, e2, e3, e4⟩
  · rw [e] at k1; simp at k1
  · refine ⟨id, _, c, by rw [← h2]; exact e1, e3, e4, ?_, k2⟩
    rw [encC_all]
    exact k1
theorem OPs.len {p u v : Nat} {m : Mem} {n : Nat} {r : Reg} {ls : List (List Pt)} (h : OPs p u v m n r ls) : lenO r = some (ls.length : Int) := by
  obtain ⟨cs, h1, h0, h2, h3⟩ := h
  rw [← h2]
  rcases h1 with ⟨e1, e2⟩ | ⟨id, e1, _⟩
  · rw [e1, e2]; rfl
  · rw [e1]; rfl
theorem row_push {T : Nat → Option SFun} {p N by' : Nat} {M : Mem} {r0 : Reg} {ls : List (List Pt)} {x : Cell} {l : List Pt} {d : Option Nat} {os : List SOper} {e : Nat → Reg} {k : Kt}
    (ho : OPs p p p M N r0 ls) (hp : p < N) (hx : RPt M N (.one x) l) (hxs : ∀ id, sid (.one x) = some id → p + 1 ≤ id ∧ sid r0 ≠ some id) (hsm : ls.length < 4294967295)
    (next : ∀ c m', OPs p p p m' (N + 2) (.one c) (ls ++ [l]) → (∀ id, id ≤ p → m' id = M id) → RK T os (putE e d (.one c)) m' (N + 2) k) :
    ThenK T d os e k (evApp (upd M N (some ⟨[x], true⟩)) (N + 1) 1 by' r0 (.one (.sl N 0 1 (some 1) 1))) := by
  obtain ⟨cs, ho1, ho0, ho2, ho3⟩ := ho
  refine K_push2 cc1 (by decide) (p := x) (o := true) ho1 (by omega) (fun id h1 h2 => upd_ne _ _ (by omega)) (by rw [upd_same]; rfl) (by omega) (by omega) ?_
  intro c m' ho' h1 h2
  have hfr : ∀ id, id < N → sid r0 ≠ some id → m' id = M id := fun id k1 k2 => by rw [h1 id (by omega) k2, upd_ne _ _ (by omega)]
  refine next c m' ?_ (fun id hid => hfr id (by omega) (fun e => by have := ho1.sidlt e; omega))
  exact OPs.snoc ho2 ho3 hx (fun j hj => ⟨by have := hxs j hj; omega, (hxs j hj).2⟩) ho' hp hp (by omega) (fun id k => by have := h2 id k; omega) (fun id _ k2 k3 => hfr id k2 k3)
theorem row_after {p N n1 : Nat} {M m1 : Mem} {r0 : Reg} {ls : List (List Pt)} {x : Cell} {l : List Pt} (ho : OPs p p p M N r0 ls) (hp : p < N) (h1 : RPt m1 n1 (.one x) l) (h2 : ∀ id, sid (.one x) = some id → N ≤ id) :
    OPs p p p (unfrz M N m1) (max N n1) r0 ls ∧ RPt (unfrz M N m1) (max N n1) (.one x) l ∧ ∀ id, sid (.one x) = some id → p + 1 ≤ id ∧ sid r0 ≠ some id := by
  have hk := ho
  obtain ⟨cs, ho1, _⟩ := hk
  refine ⟨ho.keep (by omega) (fun id _ h _ _ => by rw [unfrz_at, if_pos h]), h1.keep' (by omega) (fun id hid => by rw [unfrz_at, if_neg (by have := h2 id hid; omega)]), fun id hid => ⟨by have := h2 id hid; omega, fun e => ?_⟩⟩
  have := ho1.sidlt e
  have := h2 id hid
  omega


/- The reference's places along a way walked. Conditions: those that each theorem names. -/
open Go Go.Proofs
set_option linter.unusedSimpArgs false
set_option linter.unusedVariables false

noncomputable def endsN (way : List Pt) (j : Nat) : List Int := (List.range j).map (Dw way)
theorem endsN_len (way : List Pt) (j : Nat) : (endsN way j).length = j := by simp [endsN]
theorem endsN_at {way : List Pt} {j i : Nat} (hi : i < j) : (endsN way j)[i]? = some (Dw way i) := by
  unfold endsN
  rw [List.getElem?_map, List.getElem?_range hi]
  rfl
theorem endsN_succ (way : List Pt) (j : Nat) : endsN way (j + 1) = endsN way j ++ [Dw way j] := by
  unfold endsN
  rw [List.range_succ, List.map_append]
  rfl
structure WayW (way : List Pt) : Prop extends WayI way where
  inn : way.all inP = true
  lg : ∀ i a b, way[i]? = some a → way[i + 1]? = some b → longB (b.x - a.x) (b.y - a.y) = false
  sm : way.length ≤ 1000000
theorem Dw_bd {way : List Pt} (h : WayW way) : ∀ i, i < way.length → 0 ≤ Dw way i ∧ Dw way i ≤ 1073741824 * (i : Int)
  | 0, _ => by simp [Dw]
  | i + 1, hi => by
    obtain ⟨a, b, ha, hb, e, l⟩ := h.toWayI.step hi
    have ih := Dw_bd h i (by omega)
    have := lenQ_bd (h.lg i a b ha hb)
    rw [e]
    omega
theorem find_line {way : List Pt} (h : WayI way) {d : Int} (h0 : 0 ≤ d) : ∀ j, j < way.length → d < Dw way j → ∃ i, i + 1 ≤ j ∧ Dw way i ≤ d ∧ d < Dw way (i + 1)
  | 0, _, hd => by simp only [Dw] at hd; omega
  | j + 1, hj, hd => by
    by_cases g : d < Dw way j
    · obtain ⟨i, h1, h2, h3⟩ := find_line h h0 j (by omega) g
      exact ⟨i, by omega, h2, h3⟩
    · exact ⟨j, Nat.le_refl _, by omega, hd⟩
theorem v_rat {way : List Pt} (hW : WayW way) {wr er : Reg} {d : Int} (h0 : 0 ≤ d) (h1 : d < allD way) (m : Mem) (n : Nat) (hw : RPt m n wr way) (he : RIn m n er (endsN way way.length)) : callF TA 41 [wr, er, RI d] m n = some (atR way d).r := by
  have h2 := hW.two
  obtain ⟨i0, q1, q2, q3⟩ := find_line hW.toWayI h0 (way.length - 1) (by omega) h1
  have hi0 : i0 + 1 < way.length := by omega
  obtain ⟨a, b, ha, hb, eD, hN⟩ := hW.toWayI.step hi0
  have hlg := hW.lg i0 a b ha hb
  have hNb := lenQ_bd hlg
  have hDb := Dw_bd hW i0 (by omega)
  have hDb1 := Dw_bd hW (i0 + 1) hi0
  have hsm := hW.sm
  have hai : inP ⟨a.x, a.y⟩ = true := List.all_eq_true.1 hW.inn _ (List.mem_of_getElem? ha)
  have hbi : inP ⟨b.x, b.y⟩ = true := List.all_eq_true.1 hW.inn _ (List.mem_of_getElem? hb)
  have hres : atR way d = placeP a.x a.y b.x b.y (d - Dw way i0) (lenQ a b) := by
    have := atR_eq hW.toWayI ha hb (t := d - Dw way i0) (by omega) (by omega)
    rw [show Dw way i0 + (d - Dw way i0) = d by omega] at this
    exact this
  rw [hres]
  refine callF_of (Fn_ofK (fn := F41) rfl (by simp [F41]) ?_)
  try simp only [F41, c41, r41_0, r41_1, go_sem, Int.reduceTMod, Int.reduceTDiv, Int.reduceDiv, Int.reduceMod, Int.reduceAdd, Int.reduceSub, Int.reduceMul, Int.reduceNeg, Int.reducePow, Int.reduceEq, ↓reduceIte, Nat.reduceEqDiff, Nat.reduceAdd, Nat.reduceMul, Nat.reduceLeDiff, Nat.reduceSub, Nat.reduceLT, Int.reduceToNat, Int.reduceLT, Int.reduceLE, reduceCtorEq]
  repeat' ((first | refine FK_split (fun h_ => ?_) (fun h_ => ?_) | refine GK_split (fun h_ => ?_) (fun h_ => ?_) | refine ite_both (fun h_ => ?_) (fun h_ => ?_)) <;> (try simp only [decide_eq_true_eq, decide_eq_false_iff_not, Bool.not_true, Bool.not_false, Bool.not_eq_true', Bool.not_eq_false', Bool.not_eq_eq_eq_not, Decidable.not_not] at h_) <;> (try simp only [F41, c41, r41_0, r41_1, h_, go_sem, Int.reduceTMod, Int.reduceTDiv, Int.reduceDiv, Int.reduceMod, Int.reduceAdd, Int.reduceSub, Int.reduceMul, Int.reduceNeg, Int.reducePow, Int.reduceEq, ↓reduceIte, Nat.reduceEqDiff, Nat.reduceAdd, Nat.reduceMul, Nat.reduceLeDiff, Nat.reduceSub, Nat.reduceLT, Int.reduceToNat, Int.reduceLT, Int.reduceLE, reduceCtorEq]))
  obtain ⟨M0, hM0⟩ : ∃ M0, M0 = upd m n (some ⟨[I 0, I 0], true⟩) := ⟨_, rfl⟩
  rw [← hM0]
  have hw0 : RPt M0 (n + 1) wr way := hw.keep (by omega) (fun id hid => by rw [hM0, upd_ne _ _ (by omega)])
  have he0 : RIn M0 (n + 1) er (endsN way way.length) := he.keep (by omega) (fun id hid => by rw [hM0, upd_ne _ _ (by omega)])
  have hbx : M0 n = some ⟨[I 0, I 0], true⟩ := by rw [hM0, upd_same]
  have hel := endsN_len way way.length
  refine XK_iter (inv := fun j s => s.e 7 = RI j ∧ s.e 0 = wr ∧ s.e 1 = er ∧ s.e 2 = RI d ∧ s.e 6 = .one (.ptr n 0) ∧ s.m = M0 ∧ s.n = n + 1) i0
    (fun L _ => ⟨fun j hj s hs next => ?_, fun s hs => ?_⟩) 0 (by omega) _ ⟨?_, ?_, ?_, ?_, ?_, rfl, rfl⟩
  · obtain ⟨e, M, N⟩ := s
    obtain ⟨q7, q0, q1', q2', q6, qm, qn⟩ := hs
    simp only at q7 q0 q1' q2' q6 qm qn
    subst qm
    subst qn
    obtain ⟨id, off, cap, bb, hr1, hid, hbb, hcc⟩ := RL.int he0 (endsN_at (show j + 1 < way.length by omega))
    rw [hel] at hr1
    rw [hr1] at q1'
    have hle := hW.toWayI.le (i := j + 1) (j := i0) (by omega) (by omega)
    have c1 : IntKind.i64.wrap ((j : Int) + 1) = ((j + 1 : Nat) : Int) := wr_nat (by omega)
    have c2 : (((j + 1 : Nat) : Int) < (way.length : Int)) = True := eq_true (by omega)
    have c3 : (0 ≤ ((j + 1 : Nat) : Int)) = True := eq_true (by omega)
    have c4 : (Dw way (j + 1) ≤ d) = True := eq_true (by omega)
    try simp only [r41_0, r41_1, r41_2, r41_3, r41_4, c41, F41, l41_0, q7, q1', q2', c1, c2, c3, c4, hbb, hcc, lenO, Int.toNat_natCast, Nat.mul_one, go_sem, Int.reduceTMod, Int.reduceTDiv, Int.reduceDiv, Int.reduceMod, Int.reduceAdd, Int.reduceSub, Int.reduceMul, Int.reduceNeg, Int.reducePow, Int.reduceEq, ↓reduceIte, Nat.reduceEqDiff, Nat.reduceAdd, Nat.reduceMul, Nat.reduceLeDiff, Nat.reduceSub, Nat.reduceLT, Int.reduceToNat, Int.reduceLT, Int.reduceLE, reduceCtorEq]
    repeat' ((first | refine FK_split (fun h_ => ?_) (fun h_ => ?_) | refine GK_split (fun h_ => ?_) (fun h_ => ?_) | refine ite_both (fun h_ => ?_) (fun h_ => ?_)) <;> (try simp only [decide_eq_true_eq, decide_eq_false_iff_not, Bool.not_true, Bool.not_false, Bool.not_eq_true', Bool.not_eq_false', Bool.not_eq_eq_eq_not, Decidable.not_not] at h_) <;> (try simp only [r41_0, r41_1, r41_2, r41_3, r41_4, c41, F41, l41_0, q7, q1', q2', c1, c2, c3, c4, hbb, hcc, lenO, Int.toNat_natCast, Nat.mul_one, h_, go_sem, Int.reduceTMod, Int.reduceTDiv, Int.reduceDiv, Int.reduceMod, Int.reduceAdd, Int.reduceSub, Int.reduceMul, Int.reduceNeg, Int.reducePow, Int.reduceEq, ↓reduceIte, Nat.reduceEqDiff, Nat.reduceAdd, Nat.reduceMul, Nat.reduceLeDiff, Nat.reduceSub, Nat.reduceLT, Int.reduceToNat, Int.reduceLT, Int.reduceLE, reduceCtorEq]))
    refine next _ ⟨?_, ?_, ?_, ?_, ?_, rfl, rfl⟩
    · simp only [go_sem, Int.reduceTMod, Int.reduceTDiv, Int.reduceDiv, Int.reduceMod, Int.reduceAdd, Int.reduceSub, Int.reduceMul, Int.reduceNeg, Int.reducePow, Int.reduceEq, ↓reduceIte, Nat.reduceEqDiff, Nat.reduceAdd, Nat.reduceMul, Nat.reduceLeDiff, Nat.reduceSub, Nat.reduceLT, Int.reduceToNat, Int.reduceLT, Int.reduceLE, reduceCtorEq]
    · simp only [q0, go_sem, Int.reduceTMod, Int.reduceTDiv, Int.reduceDiv, Int.reduceMod, Int.reduceAdd, Int.reduceSub, Int.reduceMul, Int.reduceNeg, Int.reducePow, Int.reduceEq, ↓reduceIte, Nat.reduceEqDiff, Nat.reduceAdd, Nat.reduceMul, Nat.reduceLeDiff, Nat.reduceSub, Nat.reduceLT, Int.reduceToNat, Int.reduceLT, Int.reduceLE, reduceCtorEq]
    · simp only [q1', hr1, go_sem, Int.reduceTMod, Int.reduceTDiv, Int.reduceDiv, Int.reduceMod, Int.reduceAdd, Int.reduceSub, Int.reduceMul, Int.reduceNeg, Int.reducePow, Int.reduceEq, ↓reduceIte, Nat.reduceEqDiff, Nat.reduceAdd, Nat.reduceMul, Nat.reduceLeDiff, Nat.reduceSub, Nat.reduceLT, Int.reduceToNat, Int.reduceLT, Int.reduceLE, reduceCtorEq]
    · simp only [q2', go_sem, Int.reduceTMod, Int.reduceTDiv, Int.reduceDiv, Int.reduceMod, Int.reduceAdd, Int.reduceSub, Int.reduceMul, Int.reduceNeg, Int.reducePow, Int.reduceEq, ↓reduceIte, Nat.reduceEqDiff, Nat.reduceAdd, Nat.reduceMul, Nat.reduceLeDiff, Nat.reduceSub, Nat.reduceLT, Int.reduceToNat, Int.reduceLT, Int.reduceLE, reduceCtorEq]
    · simp only [q6, go_sem, Int.reduceTMod, Int.reduceTDiv, Int.reduceDiv, Int.reduceMod, Int.reduceAdd, Int.reduceSub, Int.reduceMul, Int.reduceNeg, Int.reducePow, Int.reduceEq, ↓reduceIte, Nat.reduceEqDiff, Nat.reduceAdd, Nat.reduceMul, Nat.reduceLeDiff, Nat.reduceSub, Nat.reduceLT, Int.reduceToNat, Int.reduceLT, Int.reduceLE, reduceCtorEq]
  · obtain ⟨e, M, N⟩ := s
    obtain ⟨q7, q0, q1', q2', q6, qm, qn⟩ := hs
    simp only at q7 q0 q1' q2' q6 qm qn
    subst qm
    subst qn
    obtain ⟨id, off, cap, bb, hr1, hid, hbb, hcc⟩ := RL.int he0 (endsN_at (show i0 + 1 < way.length by omega))
    obtain ⟨id', off', cap', bb', hr1', _, hbb', hcc'⟩ := RL.int he0 (endsN_at (show i0 < way.length by omega))
    rw [hr1] at hr1'
    simp only [Reg.one.injEq, Cell.sl.injEq, true_and, and_true] at hr1'
    obtain ⟨rfl, rfl, rfl⟩ := hr1'
    rw [hbb] at hbb'
    cases hbb'
    obtain ⟨wid, woff, wcap, hwr, hwid, hwa⟩ := hw0.at cs2 ha
    obtain ⟨wid', woff', wcap', hwr', _, hwb⟩ := hw0.at cs2 hb
    rw [hwr] at hwr'
    simp only [Reg.one.injEq, Cell.sl.injEq, true_and, and_true] at hwr'
    obtain ⟨rfl, rfl, rfl⟩ := hwr'
    rw [hel] at hr1
    rw [hr1] at q1'
    rw [hwr] at q0
    have c1 : IntKind.i64.wrap ((i0 : Int) + 1) = ((i0 + 1 : Nat) : Int) := wr_nat (by omega)
    have c2 : (((i0 + 1 : Nat) : Int) < (way.length : Int)) = True := eq_true (by omega)
    have c3 : (0 ≤ ((i0 + 1 : Nat) : Int)) = True := eq_true (by omega)
    have c4 : (Dw way (i0 + 1) ≤ d) = False := eq_false (by omega)
    have c5 : ((i0 : Int) < (way.length : Int)) = True := eq_true (by omega)
    have c6 : (0 ≤ (i0 : Int)) = True := eq_true (by omega)
    have w1 : IntKind.i64.wrap (d - Dw way i0) = d - Dw way i0 := wr_eq (by omega) (by omega)
    have w2 : IntKind.i64.wrap (Dw way (i0 + 1) - Dw way i0) = lenQ a b := (wr_eq (by omega) (by omega)).trans (by omega)
    have vp := v_rplace (t := d - Dw way i0) (n := lenQ a b) hai hbi hlg (by omega) (by omega) (by omega) hNb.2
    have z1 := na_0 hwid
    try simp only [r41_0, r41_1, r41_2, r41_3, r41_4, c41, F41, l41_0, q7, q0, q1', q2', q6, c1, c2, c3, c4, c5, c6, w1, w2, hbb, hcc, hcc', hwa, hwb, vp, hbx, rd_of hbx, lenO, Int.toNat_natCast, Nat.mul_one, go_sem, Int.reduceTMod, Int.reduceTDiv, Int.reduceDiv, Int.reduceMod, Int.reduceAdd, Int.reduceSub, Int.reduceMul, Int.reduceNeg, Int.reducePow, Int.reduceEq, ↓reduceIte, Nat.reduceEqDiff, Nat.reduceAdd, Nat.reduceMul, Nat.reduceLeDiff, Nat.reduceSub, Nat.reduceLT, Int.reduceToNat, Int.reduceLT, Int.reduceLE, reduceCtorEq]
    repeat' ((first | refine FK_split (fun h_ => ?_) (fun h_ => ?_) | refine GK_split (fun h_ => ?_) (fun h_ => ?_) | refine ite_both (fun h_ => ?_) (fun h_ => ?_)) <;> (try simp only [decide_eq_true_eq, decide_eq_false_iff_not, Bool.not_true, Bool.not_false, Bool.not_eq_true', Bool.not_eq_false', Bool.not_eq_eq_eq_not, Decidable.not_not] at h_) <;> (try simp only [r41_0, r41_1, r41_2, r41_3, r41_4, c41, F41, l41_0, q7, q0, q1', q2', q6, c1, c2, c3, c4, c5, c6, w1, w2, hbb, hcc, hcc', hwa, hwb, vp, hbx, rd_of hbx, lenO, Int.toNat_natCast, Nat.mul_one, h_, go_sem, Int.reduceTMod, Int.reduceTDiv, Int.reduceDiv, Int.reduceMod, Int.reduceAdd, Int.reduceSub, Int.reduceMul, Int.reduceNeg, Int.reducePow, Int.reduceEq, ↓reduceIte, Nat.reduceEqDiff, Nat.reduceAdd, Nat.reduceMul, Nat.reduceLeDiff, Nat.reduceSub, Nat.reduceLT, Int.reduceToNat, Int.reduceLT, Int.reduceLE, reduceCtorEq]))
  · simp only [go_sem, Int.reduceTMod, Int.reduceTDiv, Int.reduceDiv, Int.reduceMod, Int.reduceAdd, Int.reduceSub, Int.reduceMul, Int.reduceNeg, Int.reducePow, Int.reduceEq, ↓reduceIte, Nat.reduceEqDiff, Nat.reduceAdd, Nat.reduceMul, Nat.reduceLeDiff, Nat.reduceSub, Nat.reduceLT, Int.reduceToNat, Int.reduceLT, Int.reduceLE, reduceCtorEq]
  · simp only [go_sem, Int.reduceTMod, Int.reduceTDiv, Int.reduceDiv, Int.reduceMod, Int.reduceAdd, Int.reduceSub, Int.reduceMul, Int.reduceNeg, Int.reducePow, Int.reduceEq, ↓reduceIte, Nat.reduceEqDiff, Nat.reduceAdd, Nat.reduceMul, Nat.reduceLeDiff, Nat.reduceSub, Nat.reduceLT, Int.reduceToNat, Int.reduceLT, Int.reduceLE, reduceCtorEq]
  · simp only [go_sem, Int.reduceTMod, Int.reduceTDiv, Int.reduceDiv, Int.reduceMod, Int.reduceAdd, Int.reduceSub, Int.reduceMul, Int.reduceNeg, Int.reducePow, Int.reduceEq, ↓reduceIte, Nat.reduceEqDiff, Nat.reduceAdd, Nat.reduceMul, Nat.reduceLeDiff, Nat.reduceSub, Nat.reduceLT, Int.reduceToNat, Int.reduceLT, Int.reduceLE, reduceCtorEq]
  · simp only [go_sem, Int.reduceTMod, Int.reduceTDiv, Int.reduceDiv, Int.reduceMod, Int.reduceAdd, Int.reduceSub, Int.reduceMul, Int.reduceNeg, Int.reducePow, Int.reduceEq, ↓reduceIte, Nat.reduceEqDiff, Nat.reduceAdd, Nat.reduceMul, Nat.reduceLeDiff, Nat.reduceSub, Nat.reduceLT, Int.reduceToNat, Int.reduceLT, Int.reduceLE, reduceCtorEq]
  · simp only [go_sem, Int.reduceTMod, Int.reduceTDiv, Int.reduceDiv, Int.reduceMod, Int.reduceAdd, Int.reduceSub, Int.reduceMul, Int.reduceNeg, Int.reducePow, Int.reduceEq, ↓reduceIte, Nat.reduceEqDiff, Nat.reduceAdd, Nat.reduceMul, Nat.reduceLeDiff, Nat.reduceSub, Nat.reduceLT, Int.reduceToNat, Int.reduceLT, Int.reduceLE, reduceCtorEq]

/- The reference's pieces: lengths along the way; the points inside. Conditions: those that each theorem names. -/
open Go Go.Proofs
set_option linter.unusedSimpArgs false
set_option linter.unusedVariables false

/-- A row of the call's own, grown or just built. -/
def OG {α : Type} (enc : α → List Cell) (sz base : Nat) (m : Mem) (n : Nat) (c : Cell) (l : List α) : Prop :=
  ∃ id cap, c = .sl id 0 l.length cap sz ∧ base ≤ id ∧ id < n ∧ m id = some ⟨l.flatMap enc, true⟩ ∧ (cap = none ∨ cap = some l.length)
theorem OG.rl {α : Type} {enc : α → List Cell} {sz : Nat} (hsz : ∀ x, (enc x).length = sz) {base : Nat} {m : Mem} {n : Nat} {c : Cell} {l : List α} (h : OG enc sz base m n c l) : RL enc sz m n (.one c) l := by
  obtain ⟨id, cap, rfl, h1, h2, h3, h4⟩ := h
  refine Or.inr ⟨id, 0, cap, rfl, h2, ?_⟩
  have hl := flatMap_len enc sz hsz l
  rw [rd_of h3]
  unfold rdB
  rw [if_pos (by rw [hl]; omega), List.drop_zero, ← hl, List.take_length]
theorem OG.keep {α : Type} {enc : α → List Cell} {sz base : Nat} {m m' : Mem} {n n' : Nat} {c : Cell} {l : List α} (h : OG enc sz base m n c l) (hn : n ≤ n') (hm : ∀ id, base ≤ id → id < n → m' id = m id) : OG enc sz base m' n' c l := by
  obtain ⟨id, cap, rfl, h1, h2, h3, h4⟩ := h
  exact ⟨id, cap, rfl, h1, by omega, by rw [hm id h1 h2]; exact h3, h4⟩
theorem K_pushG {T : Nat → Option SFun} {α : Type} {enc : α → List Cell} {sz : Nat} (hsz : ∀ x, (enc x).length = sz) {base n0 n : Nat} {m0 m : Mem} {c0 : Cell} {l : List α} {p : α} {j by' : Nat} {o : Bool} {d : Option Nat} {os : List SOper} {e : Nat → Reg} {k : Kt}
    (ho : OG enc sz base m0 n0 c0 l) (hn : n0 ≤ n) (hm : ∀ id, sid (.one c0) = some id → m id = m0 id) (hj : m j = some ⟨enc p, o⟩) (hsm : l.length + 1 ≤ 4294967296) (hbase : base ≤ n)
    (next : ∀ c m', OG enc sz base m' (n + 1) c (l ++ [p]) → (∀ id, id < n → sid (.one c0) ≠ some id → m' id = m id) → RK T os (putE e d (.one c)) m' (n + 1) k) :
    ThenK T d os e k (evApp m n sz by' (.one c0) (.one (.sl j 0 1 (some 1) sz))) := by
  have hx : newsOf m sz (.one (.sl j 0 1 (some 1) sz)) = some (1, enc p) := by
    simp only [newsOf, if_true]
    rw [rd_of hj]
    simp [rdB, hsz]
    exact List.take_of_length_le (by rw [hsz]; exact Nat.le_refl _)
  obtain ⟨id, cap, rfl, h2, h3, h4, h7⟩ := ho
  have h5 : m id = some ⟨l.flatMap enc, true⟩ := by rw [hm id rfl]; exact h4
  have hl := flatMap_len enc sz hsz l
  have h6 : rd m id 0 (l.length * sz) = some (l.flatMap enc) := by
    rw [rd_of h5]
    unfold rdB
    rw [if_pos (by rw [hl]; omega), List.drop_zero, ← hl, List.take_length]
  have fin : ∀ m', m' n = some ⟨l.flatMap enc ++ enc p, true⟩ → OG enc sz base m' (n + 1) (.sl n 0 (l.length + 1) none sz) (l ++ [p]) := fun m' h => ⟨n, none, by simp, hbase, by omega, by rw [h]; simp, Or.inl rfl⟩
  rcases h7 with rfl | rfl
  · simp only [evApp, hx, if_true, h5, h6, Option.map_some, true_and, if_pos hsm]
    exact next _ _ (fin _ (upd_same _ _ _)) (fun i hi hs => by rw [upd_ne _ _ (by omega), upd_ne _ _ (fun e => hs (by rw [e]; rfl))])
  · simp only [evApp, hx, true_and, if_pos hsm]
    rw [if_neg (by omega)]
    simp only [h6, Option.map_some]
    exact next _ _ (fin _ (upd_same _ _ _)) (fun i hi hs => upd_ne _ _ (by omega))
theorem ends_loop {K : Kt} {way : List Pt} (hW : WayW way) {m : Mem} {n : Nat} {wr pr : Reg} {ph mo : Int} (hw : RPt m n wr way) {e : Nat → Reg} (e0 : e 0 = wr) (e1 : e 1 = pr) (e2 : e 2 = RI ph) (e3 : e 3 = RI mo) (e10 : e 10 = .one (.sl n 0 1 (some 1) 1)) (e11 : e 11 = RI 1)
    (hK : ∀ s c, s.e 10 = .one c → OG encI 1 n s.m s.n c (endsN way way.length) → s.e 0 = wr → s.e 1 = pr → s.e 2 = RI ph → s.e 3 = RI mo → (∀ id, id < n → s.m id = m id) → n + 1 ≤ s.n → KX TA K 0 s) :
    XK TA (.loop l20_0) ⟨e, upd m n (some ⟨[I 0], true⟩), n + 1⟩ K := by
  have h2 := hW.two
  have hsm := hW.sm
  have hlen := hw.len
  refine XK_iter (inv := fun i s => ∃ c, s.e 10 = .one c ∧ OG encI 1 n s.m s.n c (endsN way (i + 1)) ∧ s.e 11 = RI ((i + 1 : Nat) : Int) ∧ s.e 0 = wr ∧ s.e 1 = pr ∧ s.e 2 = RI ph ∧ s.e 3 = RI mo ∧ (∀ id, id < n → s.m id = m id) ∧ n + 1 ≤ s.n) (way.length - 1)
    (fun L _ => ⟨fun i hi s hs next => ?_, fun s hs => ?_⟩) 0 (by omega) _ ⟨_, e10, ⟨n, some 1, rfl, Nat.le_refl _, Nat.lt_succ_self _, (upd_same _ _ _).trans rfl, Or.inr rfl⟩, e11, e0, e1, e2, e3, fun id hid => upd_ne _ _ (by omega), Nat.le_refl _⟩
  · obtain ⟨e, M, N⟩ := s
    obtain ⟨c, q10, qO, q11, q0, q1, q2, q3, qm, qn⟩ := hs
    simp only at q10 qO q11 q0 q1 q2 q3 qm qn
    obtain ⟨a, b, ha, hb, eD, hN⟩ := hW.toWayI.step (i := i) (by omega)
    have hlg := hW.lg i a b ha hb
    have hai : inP ⟨a.x, a.y⟩ = true := List.all_eq_true.1 hW.inn _ (List.mem_of_getElem? ha)
    have hbi : inP ⟨b.x, b.y⟩ = true := List.all_eq_true.1 hW.inn _ (List.mem_of_getElem? hb)
    have vL := v_rLength a.x a.y b.x b.y hai hbi hlg
    rw [show isq ((b.x - a.x) * (b.x - a.x) + (b.y - a.y) * (b.y - a.y)) = lenQ a b from rfl] at vL
    have hNb := lenQ_bd hlg
    have hDb := Dw_bd hW i (by omega)
    have hwM : RPt M N wr way := hw.keep (by omega) qm
    obtain ⟨wid, woff, wcap, hwr, hwid, hwa⟩ := hwM.at cs2 ha
    obtain ⟨wid', woff', wcap', hwr', _, hwb⟩ := hwM.at cs2 hb
    rw [hwr] at hwr'
    simp only [Reg.one.injEq, Cell.sl.injEq, true_and, and_true] at hwr'
    obtain ⟨rfl, rfl, rfl⟩ := hwr'
    have hel := endsN_len way (i + 1)
    obtain ⟨id, off, cap, bb, hr1, hid, hbb, hcc⟩ := RL.int (qO.rl ci1) (endsN_at (show i < i + 1 by omega))
    rw [hel] at hr1
    simp only [Reg.one.injEq] at hr1
    rw [hwr] at q0
    have q10' := q10
    rw [hr1] at q10'
    have c1 : (((i + 1 : Nat) : Int) < (way.length : Int)) = True := eq_true (by omega)
    have c2 : IntKind.i64.wrap (((i + 1 : Nat) : Int) - 1) = (i : Int) := (wr_eq (by omega) (by omega)).trans (by omega)
    have c3 : (0 ≤ (i : Int)) = True := eq_true (by omega)
    have c4 : ((i : Int) < (way.length : Int)) = True := eq_true (by omega)
    have c5 : (0 ≤ ((i + 1 : Nat) : Int)) = True := eq_true (by omega)
    have c6 : ((i : Int) < ((i + 1 : Nat) : Int)) = True := eq_true (by omega)
    have c7 : IntKind.i64.wrap (((i + 1 : Nat) : Int) + 1) = ((i + 1 + 1 : Nat) : Int) := wr_nat (by omega)
    have w1 : IntKind.i64.wrap (Dw way i + lenQ a b) = Dw way (i + 1) := (wr_eq (by omega) (by omega)).trans eD.symm
    try simp only [r20_0, r20_1, r20_2, r20_3, r20_5, r20_4, r20_6, r20_7, r20_8, r20_9, r20_10, r20_12, r20_13, r20_14, r20_15, r20_16, r20_17, r20_18, r20_19, r20_21, r20_22, r20_20, r20_23, r20_24, r20_25, r20_26, r20_27, r20_28, r20_11, r20_29, c20, F20, l20_0, l20_1, l20_2, q11, q0, q10', c1, c2, c3, c4, c5, c6, hbb, hcc, hwa, hwb, vL, w1, lenO, Int.toNat_natCast, Nat.mul_one, go_sem, Int.reduceTMod, Int.reduceTDiv, Int.reduceDiv, Int.reduceMod, Int.reduceAdd, Int.reduceSub, Int.reduceMul, Int.reduceNeg, Int.reducePow, Int.reduceEq, ↓reduceIte, Nat.reduceEqDiff, Nat.reduceAdd, Nat.reduceMul, Nat.reduceLeDiff, Nat.reduceSub, Nat.reduceLT, Int.reduceToNat, Int.reduceLT, Int.reduceLE, reduceCtorEq]
    repeat' ((first | refine FK_split (fun h_ => ?_) (fun h_ => ?_) | refine GK_split (fun h_ => ?_) (fun h_ => ?_) | refine ite_both (fun h_ => ?_) (fun h_ => ?_)) <;> (try simp only [decide_eq_true_eq, decide_eq_false_iff_not, Bool.not_true, Bool.not_false, Bool.not_eq_true', Bool.not_eq_false', Bool.not_eq_eq_eq_not, Decidable.not_not] at h_) <;> (try simp only [r20_0, r20_1, r20_2, r20_3, r20_5, r20_4, r20_6, r20_7, r20_8, r20_9, r20_10, r20_12, r20_13, r20_14, r20_15, r20_16, r20_17, r20_18, r20_19, r20_21, r20_22, r20_20, r20_23, r20_24, r20_25, r20_26, r20_27, r20_28, r20_11, r20_29, c20, F20, l20_0, l20_1, l20_2, q11, q0, q10', c1, c2, c3, c4, c5, c6, hbb, hcc, hwa, hwb, vL, w1, lenO, Int.toNat_natCast, Nat.mul_one, h_, go_sem, Int.reduceTMod, Int.reduceTDiv, Int.reduceDiv, Int.reduceMod, Int.reduceAdd, Int.reduceSub, Int.reduceMul, Int.reduceNeg, Int.reducePow, Int.reduceEq, ↓reduceIte, Nat.reduceEqDiff, Nat.reduceAdd, Nat.reduceMul, Nat.reduceLeDiff, Nat.reduceSub, Nat.reduceLT, Int.reduceToNat, Int.reduceLT, Int.reduceLE, reduceCtorEq]))
    rw [← hr1]
    refine K_pushG ci1 (p := Dw way (i + 1)) (o := true) qO (by omega) (fun id hi => ?_) (upd_same _ _ _) (by rw [hel]; omega) (by omega) ?_
    · obtain ⟨id', cap', e', h1', h2', _⟩ := qO
      rw [e'] at hi
      simp only [sid, Option.some.injEq] at hi
      rw [upd_ne _ _ (by omega)]
    intro c' m' hO' hf'
    try simp only [r20_0, r20_1, r20_2, r20_3, r20_5, r20_4, r20_6, r20_7, r20_8, r20_9, r20_10, r20_12, r20_13, r20_14, r20_15, r20_16, r20_17, r20_18, r20_19, r20_21, r20_22, r20_20, r20_23, r20_24, r20_25, r20_26, r20_27, r20_28, r20_11, r20_29, c20, F20, q11, c7, go_sem, Int.reduceTMod, Int.reduceTDiv, Int.reduceDiv, Int.reduceMod, Int.reduceAdd, Int.reduceSub, Int.reduceMul, Int.reduceNeg, Int.reducePow, Int.reduceEq, ↓reduceIte, Nat.reduceEqDiff, Nat.reduceAdd, Nat.reduceMul, Nat.reduceLeDiff, Nat.reduceSub, Nat.reduceLT, Int.reduceToNat, Int.reduceLT, Int.reduceLE, reduceCtorEq]
    repeat' ((first | refine FK_split (fun h_ => ?_) (fun h_ => ?_) | refine GK_split (fun h_ => ?_) (fun h_ => ?_) | refine ite_both (fun h_ => ?_) (fun h_ => ?_)) <;> (try simp only [decide_eq_true_eq, decide_eq_false_iff_not, Bool.not_true, Bool.not_false, Bool.not_eq_true', Bool.not_eq_false', Bool.not_eq_eq_eq_not, Decidable.not_not] at h_) <;> (try simp only [r20_0, r20_1, r20_2, r20_3, r20_5, r20_4, r20_6, r20_7, r20_8, r20_9, r20_10, r20_12, r20_13, r20_14, r20_15, r20_16, r20_17, r20_18, r20_19, r20_21, r20_22, r20_20, r20_23, r20_24, r20_25, r20_26, r20_27, r20_28, r20_11, r20_29, c20, F20, q11, c7, h_, go_sem, Int.reduceTMod, Int.reduceTDiv, Int.reduceDiv, Int.reduceMod, Int.reduceAdd, Int.reduceSub, Int.reduceMul, Int.reduceNeg, Int.reducePow, Int.reduceEq, ↓reduceIte, Nat.reduceEqDiff, Nat.reduceAdd, Nat.reduceMul, Nat.reduceLeDiff, Nat.reduceSub, Nat.reduceLT, Int.reduceToNat, Int.reduceLT, Int.reduceLE, reduceCtorEq]))
    refine next _ ⟨c', ?_, ?_, ?_, ?_, ?_, ?_, ?_, fun id hid => ?_, ?_⟩
    · simp only [go_sem, Int.reduceTMod, Int.reduceTDiv, Int.reduceDiv, Int.reduceMod, Int.reduceAdd, Int.reduceSub, Int.reduceMul, Int.reduceNeg, Int.reducePow, Int.reduceEq, ↓reduceIte, Nat.reduceEqDiff, Nat.reduceAdd, Nat.reduceMul, Nat.reduceLeDiff, Nat.reduceSub, Nat.reduceLT, Int.reduceToNat, Int.reduceLT, Int.reduceLE, reduceCtorEq]
    · rw [endsN_succ way (i + 1)]
      exact hO'
    · simp only [go_sem, Int.reduceTMod, Int.reduceTDiv, Int.reduceDiv, Int.reduceMod, Int.reduceAdd, Int.reduceSub, Int.reduceMul, Int.reduceNeg, Int.reducePow, Int.reduceEq, ↓reduceIte, Nat.reduceEqDiff, Nat.reduceAdd, Nat.reduceMul, Nat.reduceLeDiff, Nat.reduceSub, Nat.reduceLT, Int.reduceToNat, Int.reduceLT, Int.reduceLE, reduceCtorEq]
    · simp only [q0, hwr, go_sem, Int.reduceTMod, Int.reduceTDiv, Int.reduceDiv, Int.reduceMod, Int.reduceAdd, Int.reduceSub, Int.reduceMul, Int.reduceNeg, Int.reducePow, Int.reduceEq, ↓reduceIte, Nat.reduceEqDiff, Nat.reduceAdd, Nat.reduceMul, Nat.reduceLeDiff, Nat.reduceSub, Nat.reduceLT, Int.reduceToNat, Int.reduceLT, Int.reduceLE, reduceCtorEq]
    · simp only [q1, go_sem, Int.reduceTMod, Int.reduceTDiv, Int.reduceDiv, Int.reduceMod, Int.reduceAdd, Int.reduceSub, Int.reduceMul, Int.reduceNeg, Int.reducePow, Int.reduceEq, ↓reduceIte, Nat.reduceEqDiff, Nat.reduceAdd, Nat.reduceMul, Nat.reduceLeDiff, Nat.reduceSub, Nat.reduceLT, Int.reduceToNat, Int.reduceLT, Int.reduceLE, reduceCtorEq]
    · simp only [q2, go_sem, Int.reduceTMod, Int.reduceTDiv, Int.reduceDiv, Int.reduceMod, Int.reduceAdd, Int.reduceSub, Int.reduceMul, Int.reduceNeg, Int.reducePow, Int.reduceEq, ↓reduceIte, Nat.reduceEqDiff, Nat.reduceAdd, Nat.reduceMul, Nat.reduceLeDiff, Nat.reduceSub, Nat.reduceLT, Int.reduceToNat, Int.reduceLT, Int.reduceLE, reduceCtorEq]
    · simp only [q3, go_sem, Int.reduceTMod, Int.reduceTDiv, Int.reduceDiv, Int.reduceMod, Int.reduceAdd, Int.reduceSub, Int.reduceMul, Int.reduceNeg, Int.reducePow, Int.reduceEq, ↓reduceIte, Nat.reduceEqDiff, Nat.reduceAdd, Nat.reduceMul, Nat.reduceLeDiff, Nat.reduceSub, Nat.reduceLT, Int.reduceToNat, Int.reduceLT, Int.reduceLE, reduceCtorEq]
    · simp only
      rw [hf' id (by omega) (fun e => by
        obtain ⟨id', cap', e', h1', h2', _⟩ := qO
        rw [e'] at e
        simp only [sid, Option.some.injEq] at e
        omega), upd_ne _ _ (by omega)]
      exact qm id hid
    · simp only
      omega
  · obtain ⟨e, M, N⟩ := s
    obtain ⟨c, q10, qO, q11, q0, q1, q2, q3, qm, qn⟩ := hs
    simp only at q10 qO q11 q0 q1 q2 q3 qm qn
    have c1 : (((way.length - 1 + 1 : Nat) : Int) < (way.length : Int)) = False := eq_false (by omega)
    rw [show way.length - 1 + 1 = way.length by omega] at qO
    try simp only [r20_0, r20_1, r20_2, r20_3, r20_5, r20_4, r20_6, r20_7, r20_8, r20_9, r20_10, r20_12, r20_13, r20_14, r20_15, r20_16, r20_17, r20_18, r20_19, r20_21, r20_22, r20_20, r20_23, r20_24, r20_25, r20_26, r20_27, r20_28, r20_11, r20_29, c20, F20, l20_0, l20_1, l20_2, q11, q0, hlen, c1, go_sem, Int.reduceTMod, Int.reduceTDiv, Int.reduceDiv, Int.reduceMod, Int.reduceAdd, Int.reduceSub, Int.reduceMul, Int.reduceNeg, Int.reducePow, Int.reduceEq, ↓reduceIte, Nat.reduceEqDiff, Nat.reduceAdd, Nat.reduceMul, Nat.reduceLeDiff, Nat.reduceSub, Nat.reduceLT, Int.reduceToNat, Int.reduceLT, Int.reduceLE, reduceCtorEq]
    repeat' ((first | refine FK_split (fun h_ => ?_) (fun h_ => ?_) | refine GK_split (fun h_ => ?_) (fun h_ => ?_) | refine ite_both (fun h_ => ?_) (fun h_ => ?_)) <;> (try simp only [decide_eq_true_eq, decide_eq_false_iff_not, Bool.not_true, Bool.not_false, Bool.not_eq_true', Bool.not_eq_false', Bool.not_eq_eq_eq_not, Decidable.not_not] at h_) <;> (try simp only [r20_0, r20_1, r20_2, r20_3, r20_5, r20_4, r20_6, r20_7, r20_8, r20_9, r20_10, r20_12, r20_13, r20_14, r20_15, r20_16, r20_17, r20_18, r20_19, r20_21, r20_22, r20_20, r20_23, r20_24, r20_25, r20_26, r20_27, r20_28, r20_11, r20_29, c20, F20, l20_0, l20_1, l20_2, q11, q0, hlen, c1, h_, go_sem, Int.reduceTMod, Int.reduceTDiv, Int.reduceDiv, Int.reduceMod, Int.reduceAdd, Int.reduceSub, Int.reduceMul, Int.reduceNeg, Int.reducePow, Int.reduceEq, ↓reduceIte, Nat.reduceEqDiff, Nat.reduceAdd, Nat.reduceMul, Nat.reduceLeDiff, Nat.reduceSub, Nat.reduceLT, Int.reduceToNat, Int.reduceLT, Int.reduceLE, reduceCtorEq]))
    refine hK _ c ?_ qO ?_ ?_ ?_ ?_ qm qn
    · simp only [q10, go_sem, Int.reduceTMod, Int.reduceTDiv, Int.reduceDiv, Int.reduceMod, Int.reduceAdd, Int.reduceSub, Int.reduceMul, Int.reduceNeg, Int.reducePow, Int.reduceEq, ↓reduceIte, Nat.reduceEqDiff, Nat.reduceAdd, Nat.reduceMul, Nat.reduceLeDiff, Nat.reduceSub, Nat.reduceLT, Int.reduceToNat, Int.reduceLT, Int.reduceLE, reduceCtorEq]
    · simp only [q0, go_sem, Int.reduceTMod, Int.reduceTDiv, Int.reduceDiv, Int.reduceMod, Int.reduceAdd, Int.reduceSub, Int.reduceMul, Int.reduceNeg, Int.reducePow, Int.reduceEq, ↓reduceIte, Nat.reduceEqDiff, Nat.reduceAdd, Nat.reduceMul, Nat.reduceLeDiff, Nat.reduceSub, Nat.reduceLT, Int.reduceToNat, Int.reduceLT, Int.reduceLE, reduceCtorEq]
    · simp only [q1, go_sem, Int.reduceTMod, Int.reduceTDiv, Int.reduceDiv, Int.reduceMod, Int.reduceAdd, Int.reduceSub, Int.reduceMul, Int.reduceNeg, Int.reducePow, Int.reduceEq, ↓reduceIte, Nat.reduceEqDiff, Nat.reduceAdd, Nat.reduceMul, Nat.reduceLeDiff, Nat.reduceSub, Nat.reduceLT, Int.reduceToNat, Int.reduceLT, Int.reduceLE, reduceCtorEq]
    · simp only [q2, go_sem, Int.reduceTMod, Int.reduceTDiv, Int.reduceDiv, Int.reduceMod, Int.reduceAdd, Int.reduceSub, Int.reduceMul, Int.reduceNeg, Int.reducePow, Int.reduceEq, ↓reduceIte, Nat.reduceEqDiff, Nat.reduceAdd, Nat.reduceMul, Nat.reduceLeDiff, Nat.reduceSub, Nat.reduceLT, Int.reduceToNat, Int.reduceLT, Int.reduceLE, reduceCtorEq]
    · simp only [q3, go_sem, Int.reduceTMod, Int.reduceTDiv, Int.reduceDiv, Int.reduceMod, Int.reduceAdd, Int.reduceSub, Int.reduceMul, Int.reduceNeg, Int.reducePow, Int.reduceEq, ↓reduceIte, Nat.reduceEqDiff, Nat.reduceAdd, Nat.reduceMul, Nat.reduceLeDiff, Nat.reduceSub, Nat.reduceLT, Int.reduceToNat, Int.reduceLT, Int.reduceLE, reduceCtorEq]

end Go.Proofs.Ytoakdmjpbachdaa.Sy
