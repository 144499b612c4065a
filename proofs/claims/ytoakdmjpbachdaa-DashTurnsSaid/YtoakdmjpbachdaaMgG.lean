import Derived.Test.YtoakdmjpbachdaaMgF
/- A pen that goes along a line walked. Conditions: those that each theorem names. -/
namespace Go.Proofs.Ytoakdmjpbachdaa.Sy
open Go Go.Proofs
set_option linter.unusedSimpArgs false
set_option linter.unusedVariables false
set_option maxRecDepth 20000
attribute [local go_sem] XK_seq XK_block XK_skip XK_exit XK_ret XK_cond XK_reg XK_dreg XK_ureg KN_seq KN_blk KN_lp KN_chk KN_chku KN_top KN_fin KX_seq KX_lp KX_blk KX_chk KX_top KR_seq KR_blk KR_lp KR_chk KR_top KR_fin FK_true FK_false RK_nil RK_mv RK_pick RK_alloc RK_box RK_build RK_bslice RK_load1 RK_loadA RK_store RK_nilchk RK_bin RK_beq RK_eqv RK_eqnil RK_un RK_conv RK_mkfn RK_mkslice RK_slS RK_slA RK_fadr RK_fld RK_iadrA RK_iadrS RK_idxA RK_ext RK_lenC RK_cap RK_app RK_cpy RK_mn RK_mx RK_len RK_carry RK_clr carryR um0 um1 ThenK_some RK_guard GK_tt GK_ff GK_tf GK_ft GK_none QK_some RK_callQ RK_callZ VK_clo RK_callV
  evalOp evO evOs upd_at unfrz_at putE_some putE_none boolOf_b boolOf_tup Option.map_some evRes pack_one pack_two pack_three pack_none List.getD_cons_zero List.getD_cons_succ getD_nil
  Option.some.injEq exists_eq_left' Reg.cs? fillC setL List.set_cons_zero List.set_cons_succ List.length_cons List.length_nil rd_upd rd_updn rdB wr List.drop_zero List.drop_succ_cons List.take_succ_cons List.take_zero List.getElem?_cons_zero List.getElem?_cons_succ
  ix Int.toNat_zero lenO_sl lenO_nil nadd na_eq na_eq' na_lt na_ee na_ll na_ne na_ne' na_tt
attribute [local go_sem] Reg.flat_one Reg.flat_agg Reg.flat_tup flats_nil flats_cons Cell.flat_sc Cell.flat_ptr List.all_cons List.all_nil disOk safeOk safeR decide_eq_true_eq decide_eq_false_iff_not
  List.map_cons List.map_nil List.cons_append List.nil_append List.append_nil evalOp.capsOf Bool.false_bne Bool.bne_false Bool.true_bne Bool.bne_true bne_self_eq_false beq_self_eq_true Bool.not_not Bool.false_and Bool.and_false Bool.true_or Bool.or_true beq_iff_eq eqCells
  Bool.true_beq Bool.false_beq Bool.not_eq_true' Bool.not_eq_eq_eq_not Bool.not_eq_false' and_false false_and frz_at idOf noId Option.isSome_some Bool.and_eq_true
attribute [local go_sem] wr_eq bV_add bV_sub bV_mul bV_eql bV_neq bV_lss bV_leq bV_gtr bV_geq bV_quo bV_rem bV_shr bV_shl uV_not uV_neg wrapU bits_and bits_or bits_xor IntKind.bits Nat.min_eq_left Nat.min_eq_right Nat.min_self
attribute [local go_sem] bne_iff_ne Int.cast_ofNat_Int Nat.zero_add Nat.add_zero and_self and_true true_and ne_eq not_false_eq_true not_true_eq_false decide_true decide_false Bool.false_eq_true Bool.not_true Bool.not_false Bool.true_and Bool.and_true Bool.or_false Bool.false_or Bool.and_self

theorem lenQ_bd {a b : Pt} (hl : longB (b.x - a.x) (b.y - a.y) = false) : 0 ≤ lenQ a b ∧ lenQ a b ≤ 1073741824 := by
  have sq := sq_bd hl
  have hn : 0 ≤ (b.x - a.x) * (b.x - a.x) + (b.y - a.y) * (b.y - a.y) := by omega
  exact ⟨(isq_spec hn).1, isq_le hn (by decide) (by omega)⟩
/-- What a line leaves. -/
def LineQ (A : Nat → Prop) (pid : Nat) (pat : List Int) (C : Int) (pc : Cell) (ph : Int) (res : Option (Int × Int × List (List Pt))) (m : Mem) (n : Nat) (r' : Reg) (m' : Mem) (n' : Nat) : Prop :=
  n ≤ n' ∧ (∀ id, id < n → (id < pid ∨ A id) → m' id = m id) ∧ (res = none → r' = RB false) ∧ ∀ k' left' ls', res = some (k', left', ls') → r' = RB true ∧ DPen A pid m' n' pc ph k' left' ls' ∧ LineI pat C k' left' ls'
theorem LineI.point {pat : List Int} {C k left left' : Int} {ls : List (List Pt)} (h : LineI pat C k left ls) (b : Pt) (h0 : 0 ≤ left') (h1 : left' ≤ left) : LineI pat (C + 1) k left' (if k % 2 = 0 then addL ls b else ls) := by
  refine ⟨h.k0, h.k1, h0, by have := h.l1; omega, fun he => ?_, ?_, fun l hl => ?_⟩
  · rw [if_pos he]
    intro e
    have := addL_len ls b
    rw [e] at this
    exact h.ne he (List.length_eq_zero_iff.1 this.symm)
  · have := h.le
    split
    · rw [addL_len]; exact this
    · exact this
  · split at hl
    · rename_i hk
      rw [if_pos hk, addL_len]
      obtain ⟨l0, m1, m2⟩ := addL_mem ls b l hl
      have := h.bd l0 m1
      rcases m2 with rfl | rfl
      · omega
      · rw [List.length_append, List.length_singleton]; omega
    · rename_i hk
      rw [if_neg hk]
      have := h.bd l hl
      omega
set_option maxHeartbeats 4000000 in
theorem w_line {A : Nat → Prop} {pid : Nat} {m : Mem} {n : Nat} {pc : Cell} {ph k left C : Int} {ls : List (List Pt)} {a b : Pt} {pat : List Int} (h : DPen A pid m n pc ph k left ls) (hA : ∀ j, A j → j < n) (hAp : ¬ A pid) (hr : RIn m n (.one pc) pat) (hb : ∀ id, sid (.one pc) = some id → id < pid)
    (hP : PatI pat) (hL : LineI pat C k left ls) (hC : 1 ≤ C ∧ C ≤ 4294900000) (ha : inP a = true) (hbi : inP b = true) (hlg : longB (b.x - a.x) (b.y - a.y) = false) :
    Fn TA 40 [.one (.ptr pid 0), .agg [I a.x, I a.y], .agg [I b.x, I b.y]] m n (LineQ A pid pat (C + 1) pc ph (lineS pat a b k left ls) m n) := by
  refine Fn_ofK (fn := F40) rfl (by simp [F40]) ?_
  have ha' : inP ⟨a.x, a.y⟩ = true := ha
  have hb' : inP ⟨b.x, b.y⟩ = true := hbi
  have vL := v_Length a.x a.y b.x b.y
  rw [ha', hb', Bool.and_self, if_pos rfl, if_neg (by rw [hlg]; simp)] at vL
  have hN := lenQ_bd hlg
  rw [show isq ((b.x - a.x) * (b.x - a.x) + (b.y - a.y) * (b.y - a.y)) = lenQ a b from rfl] at vL
  obtain ⟨R, hR⟩ : ∃ R, R = lineGo pat a b (lenQ a b) (2 * (lenQ a b).toNat + 2) 0 k left ls := ⟨_, rfl⟩
  have hS : lineS pat a b k left ls = lineE (lenQ a b) b R := by rw [hR]; rfl
  rw [hS]
  have hpn : pid < n := by obtain ⟨_, _, h2, _⟩ := h; exact h2
  obtain ⟨M0, hM0⟩ : ∃ M0, M0 = upd (upd m n (some ⟨[I a.x, I a.y], true⟩)) (n + 1) (some ⟨[I b.x, I b.y], true⟩) := ⟨_, rfl⟩
  have hD0 : DPen (fun j => A j ∨ j = n ∨ j = n + 1) pid M0 (n + 2) pc ph k left ls := h.keep (by omega) (by rw [hM0, upd_ne _ _ (by omega), upd_ne _ _ (by omega)]) (fun id q1 q2 q3 => by rw [hM0, upd_ne _ _ (by omega), upd_ne _ _ (by omega)]) (fun j q1 q2 => by rcases q2 with q2 | q2 | q2 <;> first | exact q2 | omega)
  have hf0 : ∀ id, id < n → M0 id = m id := fun id hid => by rw [hM0, upd_ne _ _ (by omega), upd_ne _ _ (by omega)]
  generalize hNN : lenQ a b = NN at *
  try simp only [r40_0, r40_1, r40_2, r40_3, r40_4, r40_5, r40_6, r40_7, r40_8, r40_9, r40_10, r40_11, c40, F40, vL, go_sem, Int.reduceTMod, Int.reduceTDiv, Int.reduceDiv, Int.reduceMod, Int.reduceAdd, Int.reduceSub, Int.reduceMul, Int.reduceNeg, Int.reducePow, Int.reduceEq, ↓reduceIte, Nat.reduceEqDiff, Nat.reduceAdd, Nat.reduceMul, Nat.reduceLeDiff, Nat.reduceSub, Nat.reduceLT, Int.reduceToNat, Int.reduceLT, Int.reduceLE, reduceCtorEq]
  repeat' ((first | refine FK_split (fun h_ => ?_) (fun h_ => ?_) | refine GK_split (fun h_ => ?_) (fun h_ => ?_) | refine ite_both (fun h_ => ?_) (fun h_ => ?_)) <;> (try simp only [decide_eq_true_eq, decide_eq_false_iff_not, Bool.not_true, Bool.not_false, Bool.not_eq_true', Bool.not_eq_false', Bool.not_eq_eq_eq_not, Decidable.not_not] at h_) <;> (try simp only [r40_0, r40_1, r40_2, r40_3, r40_4, r40_5, r40_6, r40_7, r40_8, r40_9, r40_10, r40_11, c40, F40, vL, h_, go_sem, Int.reduceTMod, Int.reduceTDiv, Int.reduceDiv, Int.reduceMod, Int.reduceAdd, Int.reduceSub, Int.reduceMul, Int.reduceNeg, Int.reducePow, Int.reduceEq, ↓reduceIte, Nat.reduceEqDiff, Nat.reduceAdd, Nat.reduceMul, Nat.reduceLeDiff, Nat.reduceSub, Nat.reduceLT, Int.reduceToNat, Int.reduceLT, Int.reduceLE, reduceCtorEq]))
  rw [← hM0]
  refine XK_down (inv := fun d s => ∃ f t k1 left1 ls1, lineGo pat a b NN f t k1 left1 ls1 = R ∧ d = meas NN t left1 ∧ d < f ∧ (0 ≤ t ∧ t ≤ NN) ∧ LineI pat C k1 left1 ls1 ∧ s.e 7 = RI NN ∧ s.e 9 = RI t ∧ s.e 0 = .one (.ptr pid 0) ∧ s.e 4 = .one (.ptr n 0) ∧ s.e 5 = .one (.ptr (n + 1) 0) ∧ n + 2 ≤ s.n ∧
      DPen (fun j => A j ∨ j = n ∨ j = n + 1) pid s.m s.n pc ph k1 left1 ls1 ∧ (∀ id, id < n + 2 → (id < pid ∨ A id ∨ id = n ∨ id = n + 1) → s.m id = M0 id))
    (fun L _ d s hs next => ?_) (meas NN 0 left) _ ⟨2 * NN.toNat + 2, 0, k, left, ls, hR.symm, rfl, ?_, ⟨by omega, hN.1⟩, hL, ?_, ?_, ?_, ?_, ?_, Nat.le_refl _, hD0, fun _ _ _ => rfl⟩
  · obtain ⟨e, M, N⟩ := s
    obtain ⟨f, t, k1, left1, ls1, hgo, hd, hdf, ht, hI, q7, q9, q0, q4, q5, qn, hD, hfr⟩ := hs
    simp only at q7 q9 q0 q4 q5 qn hD hfr
    obtain ⟨oc, gp, gpn, gO⟩ := hD
    obtain ⟨f', rfl⟩ : ∃ f', f = f' + 1 := ⟨f - 1, by omega⟩
    have w1 : IntKind.i64.wrap (NN - t) = NN - t := wr_eq (by omega) (by omega)
    have hl0 := hI.l0
    have hl1 := hI.l1
    rw [lineGo] at hgo
    by_cases g : left1 < NN - t
    · rw [if_pos g] at hgo
      have w2 : IntKind.i64.wrap (t + left1) = t + left1 := wr_eq (by omega) (by omega)
      have vp := v_dplace (t := t + left1) (n := NN) ha' hb' hlg (by omega) (by omega) (by omega) hN.2
      have b1 : M n = some ⟨[I a.x, I a.y], true⟩ := by rw [hfr n (by omega) (by omega), hM0, upd_ne _ _ (by omega), upd_same]
      have b2 : M (n + 1) = some ⟨[I b.x, I b.y], true⟩ := by rw [hfr (n + 1) (by omega) (by omega), hM0, upd_same]
      generalize placeP a.x a.y b.x b.y (t + left1) NN = pp at *
      try simp only [r40_0, r40_1, r40_2, r40_3, r40_4, r40_5, r40_6, r40_7, r40_8, r40_9, r40_10, r40_11, c40, F40, l40_0, q7, q9, q0, q4, q5, gp, w1, g, w2, b1, rd_of b1, b2, rd_of b2, vp, go_sem, Int.reduceTMod, Int.reduceTDiv, Int.reduceDiv, Int.reduceMod, Int.reduceAdd, Int.reduceSub, Int.reduceMul, Int.reduceNeg, Int.reducePow, Int.reduceEq, ↓reduceIte, Nat.reduceEqDiff, Nat.reduceAdd, Nat.reduceMul, Nat.reduceLeDiff, Nat.reduceSub, Nat.reduceLT, Int.reduceToNat, Int.reduceLT, Int.reduceLE, reduceCtorEq]
      repeat' ((first | refine FK_split (fun h_ => ?_) (fun h_ => ?_) | refine GK_split (fun h_ => ?_) (fun h_ => ?_) | refine ite_both (fun h_ => ?_) (fun h_ => ?_)) <;> (try simp only [decide_eq_true_eq, decide_eq_false_iff_not, Bool.not_true, Bool.not_false, Bool.not_eq_true', Bool.not_eq_false', Bool.not_eq_eq_eq_not, Decidable.not_not] at h_) <;> (try simp only [r40_0, r40_1, r40_2, r40_3, r40_4, r40_5, r40_6, r40_7, r40_8, r40_9, r40_10, r40_11, c40, F40, l40_0, q7, q9, q0, q4, q5, gp, w1, g, w2, b1, rd_of b1, b2, rd_of b2, vp, h_, go_sem, Int.reduceTMod, Int.reduceTDiv, Int.reduceDiv, Int.reduceMod, Int.reduceAdd, Int.reduceSub, Int.reduceMul, Int.reduceNeg, Int.reducePow, Int.reduceEq, ↓reduceIte, Nat.reduceEqDiff, Nat.reduceAdd, Nat.reduceMul, Nat.reduceLeDiff, Nat.reduceSub, Nat.reduceLT, Int.reduceToNat, Int.reduceLT, Int.reduceLE, reduceCtorEq]))
      refine RK_callw ?_
      have hA' : ∀ j, (A j ∨ j = n ∨ j = n + 1) → j < N := fun j ha => by rcases ha with ha | ha | ha <;> first | omega | (have := hA j ha; omega)
      have hAp' : ¬ (A pid ∨ pid = n ∨ pid = n + 1) := fun ha => by rcases ha with ha | ha | ha <;> first | omega | exact hAp ha
      have hrM : RIn M N (.one pc) pat := hr.keep' (by omega) (fun id hid => by rw [hfr id (by have := hb id hid; omega) (Or.inl (hb id hid))]; exact hf0 id (by have := hb id hid; omega))
      obtain ⟨x, x0, x1, x2, x3⟩ := hP.at k1
      have hle := hI.le
      have hpl := hP.le
      have hk1 := hI.k1
      have hk0 := hI.k0
      have hnx := fun hlen => hI.next hP pp hC.1 hlen
      rw [x1] at hgo hnx
      refine (w_next (p := pp) ⟨oc, gp, gpn, gO⟩ hA' hAp' hrM hb hI.k0 hI.k1 (by omega) hI.ne (by omega) (fun l hl => by have := hI.bd l hl; omega) x0).mono ?_
      rintro _ m2 n2 ⟨hn2, ⟨oc2, gp2, gpn2, gO2⟩, hf2⟩
      have hlen2 := gO2.len
      by_cases g2 : 4096 < (nextL k1 ((k1 + 1) % pat.length) ls1 pp).length
      · rw [if_pos g2] at hgo
        have g2' : (4096 < ((nextL k1 ((k1 + 1) % pat.length) ls1 pp).length : Int)) = True := eq_true (by omega)
        try simp only [r40_0, r40_1, r40_2, r40_3, r40_4, r40_5, r40_6, r40_7, r40_8, r40_9, r40_10, r40_11, c40, F40, q0, gp2, hlen2, g2', go_sem, Int.reduceTMod, Int.reduceTDiv, Int.reduceDiv, Int.reduceMod, Int.reduceAdd, Int.reduceSub, Int.reduceMul, Int.reduceNeg, Int.reducePow, Int.reduceEq, ↓reduceIte, Nat.reduceEqDiff, Nat.reduceAdd, Nat.reduceMul, Nat.reduceLeDiff, Nat.reduceSub, Nat.reduceLT, Int.reduceToNat, Int.reduceLT, Int.reduceLE, reduceCtorEq]
        repeat' ((first | refine FK_split (fun h_ => ?_) (fun h_ => ?_) | refine GK_split (fun h_ => ?_) (fun h_ => ?_) | refine ite_both (fun h_ => ?_) (fun h_ => ?_)) <;> (try simp only [decide_eq_true_eq, decide_eq_false_iff_not, Bool.not_true, Bool.not_false, Bool.not_eq_true', Bool.not_eq_false', Bool.not_eq_eq_eq_not, Decidable.not_not] at h_) <;> (try simp only [r40_0, r40_1, r40_2, r40_3, r40_4, r40_5, r40_6, r40_7, r40_8, r40_9, r40_10, r40_11, c40, F40, q0, gp2, hlen2, g2', h_, go_sem, Int.reduceTMod, Int.reduceTDiv, Int.reduceDiv, Int.reduceMod, Int.reduceAdd, Int.reduceSub, Int.reduceMul, Int.reduceNeg, Int.reducePow, Int.reduceEq, ↓reduceIte, Nat.reduceEqDiff, Nat.reduceAdd, Nat.reduceMul, Nat.reduceLeDiff, Nat.reduceSub, Nat.reduceLT, Int.reduceToNat, Int.reduceLT, Int.reduceLE, reduceCtorEq]))
        refine ⟨by omega, fun id q1 q2 => ?_, fun _ => rfl, fun k' left' ls' hh => ?_⟩
        · rw [hf2 id (by omega) (q2.elim Or.inl (fun ha => Or.inr (Or.inl ha))), hfr id (by omega) (q2.elim Or.inl (fun ha => Or.inr (Or.inl ha)))]
          exact hf0 id q1
        · rw [← hgo] at hh
          cases hh
      · rw [if_neg g2] at hgo
        have g2' : (4096 < ((nextL k1 ((k1 + 1) % pat.length) ls1 pp).length : Int)) = False := eq_false (by omega)
        have hm1 : meas NN (t + left1) x < meas NN t left1 := by
          unfold meas
          split <;> split <;> omega
        try simp only [r40_0, r40_1, r40_2, r40_3, r40_4, r40_5, r40_6, r40_7, r40_8, r40_9, r40_10, r40_11, c40, F40, q0, gp2, hlen2, g2', go_sem, Int.reduceTMod, Int.reduceTDiv, Int.reduceDiv, Int.reduceMod, Int.reduceAdd, Int.reduceSub, Int.reduceMul, Int.reduceNeg, Int.reducePow, Int.reduceEq, ↓reduceIte, Nat.reduceEqDiff, Nat.reduceAdd, Nat.reduceMul, Nat.reduceLeDiff, Nat.reduceSub, Nat.reduceLT, Int.reduceToNat, Int.reduceLT, Int.reduceLE, reduceCtorEq]
        repeat' ((first | refine FK_split (fun h_ => ?_) (fun h_ => ?_) | refine GK_split (fun h_ => ?_) (fun h_ => ?_) | refine ite_both (fun h_ => ?_) (fun h_ => ?_)) <;> (try simp only [decide_eq_true_eq, decide_eq_false_iff_not, Bool.not_true, Bool.not_false, Bool.not_eq_true', Bool.not_eq_false', Bool.not_eq_eq_eq_not, Decidable.not_not] at h_) <;> (try simp only [r40_0, r40_1, r40_2, r40_3, r40_4, r40_5, r40_6, r40_7, r40_8, r40_9, r40_10, r40_11, c40, F40, q0, gp2, hlen2, g2', h_, go_sem, Int.reduceTMod, Int.reduceTDiv, Int.reduceDiv, Int.reduceMod, Int.reduceAdd, Int.reduceSub, Int.reduceMul, Int.reduceNeg, Int.reducePow, Int.reduceEq, ↓reduceIte, Nat.reduceEqDiff, Nat.reduceAdd, Nat.reduceMul, Nat.reduceLeDiff, Nat.reduceSub, Nat.reduceLT, Int.reduceToNat, Int.reduceLT, Int.reduceLE, reduceCtorEq]))
        refine next (meas NN (t + left1) x) _ (by omega) ⟨f', t + left1, _, x, _, hgo, rfl, by omega, by omega, hnx g2, ?_, ?_, ?_, ?_, ?_, ?_, ⟨oc2, gp2, gpn2, gO2⟩, fun id q1 q2 => ?_⟩
        · simp only [q7, go_sem, Int.reduceTMod, Int.reduceTDiv, Int.reduceDiv, Int.reduceMod, Int.reduceAdd, Int.reduceSub, Int.reduceMul, Int.reduceNeg, Int.reducePow, Int.reduceEq, ↓reduceIte, Nat.reduceEqDiff, Nat.reduceAdd, Nat.reduceMul, Nat.reduceLeDiff, Nat.reduceSub, Nat.reduceLT, Int.reduceToNat, Int.reduceLT, Int.reduceLE, reduceCtorEq]
        · simp only [go_sem, Int.reduceTMod, Int.reduceTDiv, Int.reduceDiv, Int.reduceMod, Int.reduceAdd, Int.reduceSub, Int.reduceMul, Int.reduceNeg, Int.reducePow, Int.reduceEq, ↓reduceIte, Nat.reduceEqDiff, Nat.reduceAdd, Nat.reduceMul, Nat.reduceLeDiff, Nat.reduceSub, Nat.reduceLT, Int.reduceToNat, Int.reduceLT, Int.reduceLE, reduceCtorEq]
        · simp only [q0, go_sem, Int.reduceTMod, Int.reduceTDiv, Int.reduceDiv, Int.reduceMod, Int.reduceAdd, Int.reduceSub, Int.reduceMul, Int.reduceNeg, Int.reducePow, Int.reduceEq, ↓reduceIte, Nat.reduceEqDiff, Nat.reduceAdd, Nat.reduceMul, Nat.reduceLeDiff, Nat.reduceSub, Nat.reduceLT, Int.reduceToNat, Int.reduceLT, Int.reduceLE, reduceCtorEq]
        · simp only [q4, go_sem, Int.reduceTMod, Int.reduceTDiv, Int.reduceDiv, Int.reduceMod, Int.reduceAdd, Int.reduceSub, Int.reduceMul, Int.reduceNeg, Int.reducePow, Int.reduceEq, ↓reduceIte, Nat.reduceEqDiff, Nat.reduceAdd, Nat.reduceMul, Nat.reduceLeDiff, Nat.reduceSub, Nat.reduceLT, Int.reduceToNat, Int.reduceLT, Int.reduceLE, reduceCtorEq]
        · simp only [q5, go_sem, Int.reduceTMod, Int.reduceTDiv, Int.reduceDiv, Int.reduceMod, Int.reduceAdd, Int.reduceSub, Int.reduceMul, Int.reduceNeg, Int.reducePow, Int.reduceEq, ↓reduceIte, Nat.reduceEqDiff, Nat.reduceAdd, Nat.reduceMul, Nat.reduceLeDiff, Nat.reduceSub, Nat.reduceLT, Int.reduceToNat, Int.reduceLT, Int.reduceLE, reduceCtorEq]
        · simp only [go_sem, Int.reduceTMod, Int.reduceTDiv, Int.reduceDiv, Int.reduceMod, Int.reduceAdd, Int.reduceSub, Int.reduceMul, Int.reduceNeg, Int.reducePow, Int.reduceEq, ↓reduceIte, Nat.reduceEqDiff, Nat.reduceAdd, Nat.reduceMul, Nat.reduceLeDiff, Nat.reduceSub, Nat.reduceLT, Int.reduceToNat, Int.reduceLT, Int.reduceLE, reduceCtorEq]
          omega
        · simp only
          rw [hf2 id (by omega) q2]
          exact hfr id q1 q2
    · rw [if_neg g] at hgo
      subst hgo
      have w2 : IntKind.i64.wrap (left1 - (NN - t)) = left1 - (NN - t) := wr_eq (by omega) (by omega)
      have b2 : M (n + 1) = some ⟨[I b.x, I b.y], true⟩ := by rw [hfr (n + 1) (by omega) (by omega), hM0, upd_same]
      have hk0 := hI.k0
      have vd := v_drawn (pid := pid) (m := frz (upd M pid (some ⟨[pc, I ph, I k1, I (left1 - (NN - t)), oc], true⟩))) (n := N) (pc := pc) (oc := oc) (ph := ph) (k := k1) (left := left1 - (NN - t)) (o := false) (by rw [frz_at, upd_same]; rfl) hk0
      have hIe := hI.point b (left' := left1 - (NN - t)) (by omega) (by omega)
      have z1 : (n + 1 = pid) = False := eq_false (by omega)
      have hfin : ∀ id, id < n → (id < pid ∨ A id) → M id = m id := fun id q1 q2 => by
        rw [hfr id (by omega) (q2.elim Or.inl (fun ha => Or.inr (Or.inl ha)))]
        exact hf0 id q1
      have hDe : DPen (fun j => A j ∨ j = n ∨ j = n + 1) pid (upd M pid (some ⟨[pc, I ph, I k1, I (left1 - (NN - t)), oc], true⟩)) N pc ph k1 (left1 - (NN - t)) ls1 :=
        ⟨oc, upd_same _ _ _, gpn, gO.keep (Nat.le_refl _) (fun j q1 q2 q3 => upd_ne _ _ (by omega)) (fun j _ ha => ha)⟩
      cases hd : decide (k1 % 2 = 0)
      · rw [hd] at vd
        have hk2 : ¬ (k1 % 2 = 0) := of_decide_eq_false hd
        rw [if_neg hk2] at hIe
        try simp only [r40_0, r40_1, r40_2, r40_3, r40_4, r40_5, r40_6, r40_7, r40_8, r40_9, r40_10, r40_11, c40, F40, l40_0, q7, q9, q0, gp, w1, g, w2, vd, go_sem, Int.reduceTMod, Int.reduceTDiv, Int.reduceDiv, Int.reduceMod, Int.reduceAdd, Int.reduceSub, Int.reduceMul, Int.reduceNeg, Int.reducePow, Int.reduceEq, ↓reduceIte, Nat.reduceEqDiff, Nat.reduceAdd, Nat.reduceMul, Nat.reduceLeDiff, Nat.reduceSub, Nat.reduceLT, Int.reduceToNat, Int.reduceLT, Int.reduceLE, reduceCtorEq]
        repeat' ((first | refine FK_split (fun h_ => ?_) (fun h_ => ?_) | refine GK_split (fun h_ => ?_) (fun h_ => ?_) | refine ite_both (fun h_ => ?_) (fun h_ => ?_)) <;> (try simp only [decide_eq_true_eq, decide_eq_false_iff_not, Bool.not_true, Bool.not_false, Bool.not_eq_true', Bool.not_eq_false', Bool.not_eq_eq_eq_not, Decidable.not_not] at h_) <;> (try simp only [r40_0, r40_1, r40_2, r40_3, r40_4, r40_5, r40_6, r40_7, r40_8, r40_9, r40_10, r40_11, c40, F40, l40_0, q7, q9, q0, gp, w1, g, w2, vd, h_, go_sem, Int.reduceTMod, Int.reduceTDiv, Int.reduceDiv, Int.reduceMod, Int.reduceAdd, Int.reduceSub, Int.reduceMul, Int.reduceNeg, Int.reducePow, Int.reduceEq, ↓reduceIte, Nat.reduceEqDiff, Nat.reduceAdd, Nat.reduceMul, Nat.reduceLeDiff, Nat.reduceSub, Nat.reduceLT, Int.reduceToNat, Int.reduceLT, Int.reduceLE, reduceCtorEq]))
        refine ⟨by omega, fun id q1 q2 => ?_, fun hh => (by cases hh), fun k' left' ls' hh => ⟨rfl, ?_⟩⟩
        · have hne : ¬ id = pid := fun e => q2.elim (fun h => by omega) (fun h => hAp (e ▸ h))
          first | rw [if_neg hne] | rw [upd_ne _ _ hne]
          exact hfin id q1 q2
        · simp only [lineE, Option.some.injEq, Prod.mk.injEq, if_neg hk2] at hh
          obtain ⟨rfl, rfl, rfl⟩ := hh
          exact ⟨hDe.keep (Nat.le_refl _) rfl (fun _ _ _ _ => rfl) (fun j _ ha => Or.inl ha), hIe⟩
      · rw [hd] at vd
        have hk2 : k1 % 2 = 0 := of_decide_eq_true hd
        rw [if_pos hk2] at hIe
        try simp only [r40_0, r40_1, r40_2, r40_3, r40_4, r40_5, r40_6, r40_7, r40_8, r40_9, r40_10, r40_11, c40, F40, l40_0, q7, q9, q0, q5, gp, w1, g, w2, vd, z1, b2, rd_of b2, go_sem, Int.reduceTMod, Int.reduceTDiv, Int.reduceDiv, Int.reduceMod, Int.reduceAdd, Int.reduceSub, Int.reduceMul, Int.reduceNeg, Int.reducePow, Int.reduceEq, ↓reduceIte, Nat.reduceEqDiff, Nat.reduceAdd, Nat.reduceMul, Nat.reduceLeDiff, Nat.reduceSub, Nat.reduceLT, Int.reduceToNat, Int.reduceLT, Int.reduceLE, reduceCtorEq]
        repeat' ((first | refine FK_split (fun h_ => ?_) (fun h_ => ?_) | refine GK_split (fun h_ => ?_) (fun h_ => ?_) | refine ite_both (fun h_ => ?_) (fun h_ => ?_)) <;> (try simp only [decide_eq_true_eq, decide_eq_false_iff_not, Bool.not_true, Bool.not_false, Bool.not_eq_true', Bool.not_eq_false', Bool.not_eq_eq_eq_not, Decidable.not_not] at h_) <;> (try simp only [r40_0, r40_1, r40_2, r40_3, r40_4, r40_5, r40_6, r40_7, r40_8, r40_9, r40_10, r40_11, c40, F40, l40_0, q7, q9, q0, q5, gp, w1, g, w2, vd, z1, b2, rd_of b2, h_, go_sem, Int.reduceTMod, Int.reduceTDiv, Int.reduceDiv, Int.reduceMod, Int.reduceAdd, Int.reduceSub, Int.reduceMul, Int.reduceNeg, Int.reducePow, Int.reduceEq, ↓reduceIte, Nat.reduceEqDiff, Nat.reduceAdd, Nat.reduceMul, Nat.reduceLeDiff, Nat.reduceSub, Nat.reduceLT, Int.reduceToNat, Int.reduceLT, Int.reduceLE, reduceCtorEq]))
        refine RK_callw ?_
        obtain ⟨a1, y, rfl⟩ : ∃ a y, ls1 = a ++ [y] := ⟨ls1.dropLast, ls1.getLast (hI.ne hk2), (List.dropLast_concat_getLast (hI.ne hk2)).symm⟩
        rw [addL_snoc] at hIe
        have hle := hI.le
        have hla : (a1 ++ [y]).length = a1.length + 1 := by simp
        refine (w_point (p := b) hDe (fun j ha => by rcases ha with ha | ha | ha <;> first | omega | (have := hA j ha; omega)) (by omega) (by have := hI.bd y (by simp); omega)).mono ?_
        rintro _ m2 n2 ⟨hn2, hD2, hf2⟩
        try simp only [r40_0, r40_1, r40_2, r40_3, r40_4, r40_5, r40_6, r40_7, r40_8, r40_9, r40_10, r40_11, c40, F40, go_sem, Int.reduceTMod, Int.reduceTDiv, Int.reduceDiv, Int.reduceMod, Int.reduceAdd, Int.reduceSub, Int.reduceMul, Int.reduceNeg, Int.reducePow, Int.reduceEq, ↓reduceIte, Nat.reduceEqDiff, Nat.reduceAdd, Nat.reduceMul, Nat.reduceLeDiff, Nat.reduceSub, Nat.reduceLT, Int.reduceToNat, Int.reduceLT, Int.reduceLE, reduceCtorEq]
        repeat' ((first | refine FK_split (fun h_ => ?_) (fun h_ => ?_) | refine GK_split (fun h_ => ?_) (fun h_ => ?_) | refine ite_both (fun h_ => ?_) (fun h_ => ?_)) <;> (try simp only [decide_eq_true_eq, decide_eq_false_iff_not, Bool.not_true, Bool.not_false, Bool.not_eq_true', Bool.not_eq_false', Bool.not_eq_eq_eq_not, Decidable.not_not] at h_) <;> (try simp only [r40_0, r40_1, r40_2, r40_3, r40_4, r40_5, r40_6, r40_7, r40_8, r40_9, r40_10, r40_11, c40, F40, h_, go_sem, Int.reduceTMod, Int.reduceTDiv, Int.reduceDiv, Int.reduceMod, Int.reduceAdd, Int.reduceSub, Int.reduceMul, Int.reduceNeg, Int.reducePow, Int.reduceEq, ↓reduceIte, Nat.reduceEqDiff, Nat.reduceAdd, Nat.reduceMul, Nat.reduceLeDiff, Nat.reduceSub, Nat.reduceLT, Int.reduceToNat, Int.reduceLT, Int.reduceLE, reduceCtorEq]))
        refine ⟨by omega, fun id q1 q2 => ?_, fun hh => (by cases hh), fun k' left' ls' hh => ⟨rfl, ?_⟩⟩
        · have hne : ¬ id = pid := fun e => q2.elim (fun h => by omega) (fun h => hAp (e ▸ h))
          rw [hf2 id (by omega) (q2.elim Or.inl (fun ha => Or.inr (Or.inl ha))), upd_ne _ _ hne]
          exact hfin id q1 q2
        · simp only [lineE, Option.some.injEq, Prod.mk.injEq, if_pos hk2, addL_snoc] at hh
          obtain ⟨rfl, rfl, rfl⟩ := hh
          exact ⟨hD2.keep (Nat.le_refl _) rfl (fun _ _ _ _ => rfl) (fun j _ ha => Or.inl ha), hIe⟩
  · unfold meas
    split <;> omega
  · simp only [go_sem, Int.reduceTMod, Int.reduceTDiv, Int.reduceDiv, Int.reduceMod, Int.reduceAdd, Int.reduceSub, Int.reduceMul, Int.reduceNeg, Int.reducePow, Int.reduceEq, ↓reduceIte, Nat.reduceEqDiff, Nat.reduceAdd, Nat.reduceMul, Nat.reduceLeDiff, Nat.reduceSub, Nat.reduceLT, Int.reduceToNat, Int.reduceLT, Int.reduceLE, reduceCtorEq]
  · simp only [go_sem, Int.reduceTMod, Int.reduceTDiv, Int.reduceDiv, Int.reduceMod, Int.reduceAdd, Int.reduceSub, Int.reduceMul, Int.reduceNeg, Int.reducePow, Int.reduceEq, ↓reduceIte, Nat.reduceEqDiff, Nat.reduceAdd, Nat.reduceMul, Nat.reduceLeDiff, Nat.reduceSub, Nat.reduceLT, Int.reduceToNat, Int.reduceLT, Int.reduceLE, reduceCtorEq]
  · simp only [go_sem, Int.reduceTMod, Int.reduceTDiv, Int.reduceDiv, Int.reduceMod, Int.reduceAdd, Int.reduceSub, Int.reduceMul, Int.reduceNeg, Int.reducePow, Int.reduceEq, ↓reduceIte, Nat.reduceEqDiff, Nat.reduceAdd, Nat.reduceMul, Nat.reduceLeDiff, Nat.reduceSub, Nat.reduceLT, Int.reduceToNat, Int.reduceLT, Int.reduceLE, reduceCtorEq]
  · simp only [go_sem, Int.reduceTMod, Int.reduceTDiv, Int.reduceDiv, Int.reduceMod, Int.reduceAdd, Int.reduceSub, Int.reduceMul, Int.reduceNeg, Int.reducePow, Int.reduceEq, ↓reduceIte, Nat.reduceEqDiff, Nat.reduceAdd, Nat.reduceMul, Nat.reduceLeDiff, Nat.reduceSub, Nat.reduceLT, Int.reduceToNat, Int.reduceLT, Int.reduceLE, reduceCtorEq]
  · simp only [go_sem, Int.reduceTMod, Int.reduceTDiv, Int.reduceDiv, Int.reduceMod, Int.reduceAdd, Int.reduceSub, Int.reduceMul, Int.reduceNeg, Int.reducePow, Int.reduceEq, ↓reduceIte, Nat.reduceEqDiff, Nat.reduceAdd, Nat.reduceMul, Nat.reduceLeDiff, Nat.reduceSub, Nat.reduceLT, Int.reduceToNat, Int.reduceLT, Int.reduceLE, reduceCtorEq]

/- A pen's beginning: the pattern's phase. Conditions: those that each theorem names. -/
open Go Go.Proofs
set_option linter.unusedSimpArgs false
set_option linter.unusedVariables false

/-- Which length a phase lies in, and how much is left of it. -/
def phGo (pat : List Int) : Nat → Int → Int → Int × Int
  | 0, _, k => (k, 0)
  | f + 1, t, k => if t < pat.getD k.toNat 0 then (k, pat.getD k.toNat 0 - t) else phGo pat f (t - pat.getD k.toNat 0) ((k + 1) % pat.length)
def phS (pat : List Int) (ph : Int) : Int × Int := phGo pat (ph.toNat + 1) ph 0
theorem PatI.get {pat : List Int} (h : PatI pat) {k : Int} (h0 : 0 ≤ k) (h1 : k < pat.length) : ∃ x, pat[k.toNat]? = some x ∧ pat.getD k.toNat 0 = x ∧ 1 ≤ x ∧ x ≤ 1048576 := by
  have hlt : k.toNat < pat.length := by omega
  exact ⟨pat[k.toNat], List.getElem?_eq_getElem hlt, by simp [List.getD, List.getElem?_eq_getElem hlt], h.bd _ (List.getElem_mem hlt)⟩
theorem PatI.mod {pat : List Int} (h : PatI pat) (k : Int) : 0 ≤ (k + 1) % (pat.length : Int) ∧ (k + 1) % (pat.length : Int) < pat.length := by
  have h1 := h.po
  exact ⟨Int.emod_nonneg _ (by omega), Int.emod_lt_of_pos _ (by omega)⟩
theorem phGo_bd {pat : List Int} (h : PatI pat) : ∀ (f : Nat) (t k : Int), 0 ≤ t → 0 ≤ k → k < pat.length → t.toNat < f → (0 ≤ (phGo pat f t k).1 ∧ (phGo pat f t k).1 < pat.length) ∧ 1 ≤ (phGo pat f t k).2 ∧ (phGo pat f t k).2 ≤ 1048576
  | 0, _, _, _, _, _, h4 => by omega
  | f + 1, t, k, h1, h2, h3, h4 => by
    obtain ⟨x, x0, x1, x2, x3⟩ := h.get h2 h3
    rw [phGo, x1]
    split
    · exact ⟨⟨h2, h3⟩, by simp only; omega, by simp only; omega⟩
    · exact phGo_bd h f _ _ (by omega) (h.mod k).1 (h.mod k).2 (by omega)
theorem phS_bd {pat : List Int} (h : PatI pat) {ph : Int} (h0 : 0 ≤ ph) : (0 ≤ (phS pat ph).1 ∧ (phS pat ph).1 < pat.length) ∧ 1 ≤ (phS pat ph).2 ∧ (phS pat ph).2 ≤ 1048576 :=
  phGo_bd h _ _ _ h0 (Int.le_refl _) (by have := h.po; omega) (by omega)
theorem phase_loop {K : Kt} {pat : List Int} {ph : Int} {pc : Cell} {pid tb : Nat} {m0 : Mem} {n0 : Nat} {wr : Reg} (hP : PatI pat) (hph : 0 ≤ ph ∧ ph ≤ 8388608) (hr : RIn m0 n0 (.one pc) pat) (hb : ∀ id, sid (.one pc) = some id → id < pid) (htb : tb < pid) (hpn : pid < n0)
    (hbox : m0 tb = some ⟨[pc, I ph], true⟩) (hpen : m0 pid = some ⟨[pc, I ph, I 0, I (pat.getD 0 0), .sc (.slice none 0 0)], true⟩) {e : Nat → Reg} (e10 : e 10 = RI ph) (e9 : e 9 = .one (.ptr pid 0)) (e3 : e 3 = .one (.ptr tb 0)) (e7 : e 7 = wr)
    (hK : ∀ s, s.e 9 = .one (.ptr pid 0) → s.e 7 = wr → s.m pid = some ⟨[pc, I ph, I (phS pat ph).1, I (phS pat ph).2, .sc (.slice none 0 0)], true⟩ → (∀ id, id ≠ pid → s.m id = m0 id) → s.n = n0 → KX TA K 1 s) :
    XK TA (.loop l18_0) ⟨e, m0, n0⟩ K := by
  obtain ⟨R, hR⟩ : ∃ R, R = phS pat ph := ⟨_, rfl⟩
  rw [← hR] at hK
  have hpo := hP.po
  have hpl := hP.le
  refine XK_down (inv := fun d s => ∃ (rest k left : Int), d = rest.toNat ∧ 0 ≤ rest ∧ rest ≤ ph ∧ (0 ≤ k ∧ k < pat.length) ∧ ((left = pat.getD k.toNat 0 ∧ ∃ f, rest.toNat < f ∧ phGo pat f rest k = R) ∨ (rest = 0 ∧ (k, left) = R)) ∧
      s.e 10 = RI rest ∧ s.e 9 = .one (.ptr pid 0) ∧ s.e 3 = .one (.ptr tb 0) ∧ s.e 7 = wr ∧ s.m pid = some ⟨[pc, I ph, I k, I left, .sc (.slice none 0 0)], true⟩ ∧ (∀ id, id ≠ pid → s.m id = m0 id) ∧ s.n = n0)
    (fun L _ d s hs next => ?_) ph.toNat _ ⟨ph, 0, pat.getD 0 0, rfl, hph.1, Int.le_refl _, ⟨Int.le_refl _, by omega⟩, Or.inl ⟨rfl, ph.toNat + 1, by omega, hR.symm⟩, e10, e9, e3, e7, hpen, fun _ _ => rfl, rfl⟩
  obtain ⟨e, M, N⟩ := s
  obtain ⟨rest, k, left, hd, r0, r1, ⟨k0, k1⟩, hcase, q10, q9, q3, q7, qp, qm, qn⟩ := hs
  simp only at q10 q9 q3 q7 qp qm qn
  subst qn
  obtain ⟨x, x0, x1, x2, x3⟩ := hP.get k0 k1
  by_cases g : 0 < rest
  · obtain ⟨hl, f, hf, hgo⟩ := hcase.resolve_right (fun h => by omega)
    obtain ⟨f', rfl⟩ : ∃ f', f = f' + 1 := ⟨f - 1, by omega⟩
    rw [phGo, x1] at hgo
    rw [x1] at hl
    subst hl
    by_cases g2 : rest < left
    · rw [if_pos g2] at hgo
      have mn : mnI rest left = rest := by unfold mnI; rw [if_neg (by omega)]
      have w1 : IntKind.i64.wrap (rest - rest) = 0 := (wr_eq (by omega) (by omega)).trans (by omega)
      have w2 : IntKind.i64.wrap (left - rest) = left - rest := wr_eq (by omega) (by omega)
      have w3 : (left - rest = 0) = False := eq_false (by omega)
      try simp only [r18_0, r18_1, r18_2, r18_3, r18_4, r18_5, r18_6, r18_7, r18_8, r18_9, r18_10, r18_11, r18_12, r18_13, r18_14, r18_15, r18_16, r18_17, r18_18, r18_19, r18_20, r18_21, r18_22, r18_23, r18_25, r18_26, r18_24, r18_27, c18, F18, l18_0, l18_1, q10, q9, qp, g, minI_two, mn, w1, w2, w3, go_sem, Int.reduceTMod, Int.reduceTDiv, Int.reduceDiv, Int.reduceMod, Int.reduceAdd, Int.reduceSub, Int.reduceMul, Int.reduceNeg, Int.reducePow, Int.reduceEq, ↓reduceIte, Nat.reduceEqDiff, Nat.reduceAdd, Nat.reduceMul, Nat.reduceLeDiff, Nat.reduceSub, Nat.reduceLT, Int.reduceToNat, Int.reduceLT, Int.reduceLE, reduceCtorEq]
      repeat' ((first | refine FK_split (fun h_ => ?_) (fun h_ => ?_) | refine GK_split (fun h_ => ?_) (fun h_ => ?_) | refine ite_both (fun h_ => ?_) (fun h_ => ?_)) <;> (try simp only [decide_eq_true_eq, decide_eq_false_iff_not, Bool.not_true, Bool.not_false, Bool.not_eq_true', Bool.not_eq_false', Bool.not_eq_eq_eq_not, Decidable.not_not] at h_) <;> (try simp only [r18_0, r18_1, r18_2, r18_3, r18_4, r18_5, r18_6, r18_7, r18_8, r18_9, r18_10, r18_11, r18_12, r18_13, r18_14, r18_15, r18_16, r18_17, r18_18, r18_19, r18_20, r18_21, r18_22, r18_23, r18_25, r18_26, r18_24, r18_27, c18, F18, l18_0, l18_1, q10, q9, qp, g, minI_two, mn, w1, w2, w3, h_, go_sem, Int.reduceTMod, Int.reduceTDiv, Int.reduceDiv, Int.reduceMod, Int.reduceAdd, Int.reduceSub, Int.reduceMul, Int.reduceNeg, Int.reducePow, Int.reduceEq, ↓reduceIte, Nat.reduceEqDiff, Nat.reduceAdd, Nat.reduceMul, Nat.reduceLeDiff, Nat.reduceSub, Nat.reduceLT, Int.reduceToNat, Int.reduceLT, Int.reduceLE, reduceCtorEq]))
      refine next 0 _ (by omega) ⟨0, k, left - rest, by simp, Int.le_refl _, hph.1, ⟨k0, k1⟩, Or.inr ⟨rfl, hgo⟩, ?_, ?_, ?_, ?_, ?_, ?_, rfl⟩
      · simp only [go_sem, Int.reduceTMod, Int.reduceTDiv, Int.reduceDiv, Int.reduceMod, Int.reduceAdd, Int.reduceSub, Int.reduceMul, Int.reduceNeg, Int.reducePow, Int.reduceEq, ↓reduceIte, Nat.reduceEqDiff, Nat.reduceAdd, Nat.reduceMul, Nat.reduceLeDiff, Nat.reduceSub, Nat.reduceLT, Int.reduceToNat, Int.reduceLT, Int.reduceLE, reduceCtorEq]
      · simp only [q9, go_sem, Int.reduceTMod, Int.reduceTDiv, Int.reduceDiv, Int.reduceMod, Int.reduceAdd, Int.reduceSub, Int.reduceMul, Int.reduceNeg, Int.reducePow, Int.reduceEq, ↓reduceIte, Nat.reduceEqDiff, Nat.reduceAdd, Nat.reduceMul, Nat.reduceLeDiff, Nat.reduceSub, Nat.reduceLT, Int.reduceToNat, Int.reduceLT, Int.reduceLE, reduceCtorEq]
      · simp only [q3, go_sem, Int.reduceTMod, Int.reduceTDiv, Int.reduceDiv, Int.reduceMod, Int.reduceAdd, Int.reduceSub, Int.reduceMul, Int.reduceNeg, Int.reducePow, Int.reduceEq, ↓reduceIte, Nat.reduceEqDiff, Nat.reduceAdd, Nat.reduceMul, Nat.reduceLeDiff, Nat.reduceSub, Nat.reduceLT, Int.reduceToNat, Int.reduceLT, Int.reduceLE, reduceCtorEq]
      · simp only [q7, go_sem, Int.reduceTMod, Int.reduceTDiv, Int.reduceDiv, Int.reduceMod, Int.reduceAdd, Int.reduceSub, Int.reduceMul, Int.reduceNeg, Int.reducePow, Int.reduceEq, ↓reduceIte, Nat.reduceEqDiff, Nat.reduceAdd, Nat.reduceMul, Nat.reduceLeDiff, Nat.reduceSub, Nat.reduceLT, Int.reduceToNat, Int.reduceLT, Int.reduceLE, reduceCtorEq]
      · simp only [go_sem, Int.reduceTMod, Int.reduceTDiv, Int.reduceDiv, Int.reduceMod, Int.reduceAdd, Int.reduceSub, Int.reduceMul, Int.reduceNeg, Int.reducePow, Int.reduceEq, ↓reduceIte, Nat.reduceEqDiff, Nat.reduceAdd, Nat.reduceMul, Nat.reduceLeDiff, Nat.reduceSub, Nat.reduceLT, Int.reduceToNat, Int.reduceLT, Int.reduceLE, reduceCtorEq]
      · intro id hid
        simp only
        rw [upd_ne _ _ hid]
        exact qm id hid
    · rw [if_neg g2] at hgo
      have u0 : ∀ (r l ph : Int) (d f : Nat), d = r.toNat → 1 ≤ l → ¬ r < l → r ≤ ph → r.toNat < f + 1 → (r - l).toNat < d ∧ 0 ≤ r - l ∧ r - l ≤ ph ∧ (r - l).toNat < f := fun r l ph d f a1 a2 a3 a4 a5 => by omega
      obtain ⟨u1, u2, u3, u4⟩ := u0 rest left ph d f' hd x2 g2 r1 hf
      clear u0
      have mn : mnI rest left = left := by
        unfold mnI
        by_cases h : left < rest
        · rw [if_pos h]
        · rw [if_neg h]; exact Int.le_antisymm (Int.not_lt.1 h) (Int.not_lt.1 g2)
      obtain ⟨y, y0, y1, y2, y3⟩ := hP.get (hP.mod k).1 (hP.mod k).2
      have hm := hP.mod k
      have hrM : RIn M N (.one pc) pat := hr.keep' (Nat.le_refl _) (fun id hid => qm id (by have := hb id hid; omega))
      obtain ⟨id, off, cap, b, hpc, hid, hbb, hcc⟩ := RL.int hrM y0
      simp only [Reg.one.injEq] at hpc
      have hidp : id < pid := hb id (by rw [hpc]; rfl)
      have hbox' : M tb = some ⟨[pc, I ph], true⟩ := by rw [qm tb (by omega)]; exact hbox
      rw [hpc] at qp hbox'
      have w1 : IntKind.i64.wrap (rest - left) = rest - left := wr_eq (by omega) (by omega)
      have w2 : IntKind.i64.wrap (left - left) = 0 := (wr_eq (by omega) (by omega)).trans (by omega)
      have w4 : IntKind.i64.wrap (k + 1) = k + 1 := wr_eq (by omega) (by omega)
      have w5 : (k + 1).tmod (pat.length : Int) = (k + 1) % pat.length := Int.tmod_eq_emod_of_nonneg (by omega)
      have w6 : ((pat.length : Int) = 0) = False := eq_false (by omega)
      have z1 : (tb = pid) = False := eq_false (by omega)
      have z2 : (id = pid) = False := eq_false (by omega)
      have d1 : (0 ≤ (k + 1) % (pat.length : Int)) = True := eq_true hm.1
      have d2 : ((k + 1) % (pat.length : Int) < (pat.length : Int)) = True := eq_true hm.2
      try simp only [r18_0, r18_1, r18_2, r18_3, r18_4, r18_5, r18_6, r18_7, r18_8, r18_9, r18_10, r18_11, r18_12, r18_13, r18_14, r18_15, r18_16, r18_17, r18_18, r18_19, r18_20, r18_21, r18_22, r18_23, r18_25, r18_26, r18_24, r18_27, c18, F18, l18_0, l18_1, q10, q9, q3, qp, g, minI_two, mn, w1, w2, w4, w5, w6, z1, z2, d1, d2, hbox', hbb, hcc, lenO, Nat.mul_one, go_sem, Int.reduceTMod, Int.reduceTDiv, Int.reduceDiv, Int.reduceMod, Int.reduceAdd, Int.reduceSub, Int.reduceMul, Int.reduceNeg, Int.reducePow, Int.reduceEq, ↓reduceIte, Nat.reduceEqDiff, Nat.reduceAdd, Nat.reduceMul, Nat.reduceLeDiff, Nat.reduceSub, Nat.reduceLT, Int.reduceToNat, Int.reduceLT, Int.reduceLE, reduceCtorEq]
      repeat' ((first | refine FK_split (fun h_ => ?_) (fun h_ => ?_) | refine GK_split (fun h_ => ?_) (fun h_ => ?_) | refine ite_both (fun h_ => ?_) (fun h_ => ?_)) <;> (try simp only [decide_eq_true_eq, decide_eq_false_iff_not, Bool.not_true, Bool.not_false, Bool.not_eq_true', Bool.not_eq_false', Bool.not_eq_eq_eq_not, Decidable.not_not] at h_) <;> (try simp only [r18_0, r18_1, r18_2, r18_3, r18_4, r18_5, r18_6, r18_7, r18_8, r18_9, r18_10, r18_11, r18_12, r18_13, r18_14, r18_15, r18_16, r18_17, r18_18, r18_19, r18_20, r18_21, r18_22, r18_23, r18_25, r18_26, r18_24, r18_27, c18, F18, l18_0, l18_1, q10, q9, q3, qp, g, minI_two, mn, w1, w2, w4, w5, w6, z1, z2, d1, d2, hbox', hbb, hcc, lenO, Nat.mul_one, h_, go_sem, Int.reduceTMod, Int.reduceTDiv, Int.reduceDiv, Int.reduceMod, Int.reduceAdd, Int.reduceSub, Int.reduceMul, Int.reduceNeg, Int.reducePow, Int.reduceEq, ↓reduceIte, Nat.reduceEqDiff, Nat.reduceAdd, Nat.reduceMul, Nat.reduceLeDiff, Nat.reduceSub, Nat.reduceLT, Int.reduceToNat, Int.reduceLT, Int.reduceLE, reduceCtorEq]))
      refine next (rest - left).toNat _ u1 ⟨rest - left, (k + 1) % pat.length, y, rfl, u2, u3, hm, Or.inl ⟨y1.symm, f', u4, hgo⟩, ?_, ?_, ?_, ?_, ?_, ?_, rfl⟩
      · simp only [go_sem, Int.reduceTMod, Int.reduceTDiv, Int.reduceDiv, Int.reduceMod, Int.reduceAdd, Int.reduceSub, Int.reduceMul, Int.reduceNeg, Int.reducePow, Int.reduceEq, ↓reduceIte, Nat.reduceEqDiff, Nat.reduceAdd, Nat.reduceMul, Nat.reduceLeDiff, Nat.reduceSub, Nat.reduceLT, Int.reduceToNat, Int.reduceLT, Int.reduceLE, reduceCtorEq]
      · simp only [q9, go_sem, Int.reduceTMod, Int.reduceTDiv, Int.reduceDiv, Int.reduceMod, Int.reduceAdd, Int.reduceSub, Int.reduceMul, Int.reduceNeg, Int.reducePow, Int.reduceEq, ↓reduceIte, Nat.reduceEqDiff, Nat.reduceAdd, Nat.reduceMul, Nat.reduceLeDiff, Nat.reduceSub, Nat.reduceLT, Int.reduceToNat, Int.reduceLT, Int.reduceLE, reduceCtorEq]
      · simp only [q3, go_sem, Int.reduceTMod, Int.reduceTDiv, Int.reduceDiv, Int.reduceMod, Int.reduceAdd, Int.reduceSub, Int.reduceMul, Int.reduceNeg, Int.reducePow, Int.reduceEq, ↓reduceIte, Nat.reduceEqDiff, Nat.reduceAdd, Nat.reduceMul, Nat.reduceLeDiff, Nat.reduceSub, Nat.reduceLT, Int.reduceToNat, Int.reduceLT, Int.reduceLE, reduceCtorEq]
      · simp only [q7, go_sem, Int.reduceTMod, Int.reduceTDiv, Int.reduceDiv, Int.reduceMod, Int.reduceAdd, Int.reduceSub, Int.reduceMul, Int.reduceNeg, Int.reducePow, Int.reduceEq, ↓reduceIte, Nat.reduceEqDiff, Nat.reduceAdd, Nat.reduceMul, Nat.reduceLeDiff, Nat.reduceSub, Nat.reduceLT, Int.reduceToNat, Int.reduceLT, Int.reduceLE, reduceCtorEq]
      · simp only [hpc, go_sem, Int.reduceTMod, Int.reduceTDiv, Int.reduceDiv, Int.reduceMod, Int.reduceAdd, Int.reduceSub, Int.reduceMul, Int.reduceNeg, Int.reducePow, Int.reduceEq, ↓reduceIte, Nat.reduceEqDiff, Nat.reduceAdd, Nat.reduceMul, Nat.reduceLeDiff, Nat.reduceSub, Nat.reduceLT, Int.reduceToNat, Int.reduceLT, Int.reduceLE, reduceCtorEq]
      · intro id hid
        simp only
        rw [upd_ne _ _ hid, upd_ne _ _ hid, upd_ne _ _ hid]
        exact qm id hid
  · have hrest : rest = 0 := by omega
    subst hrest
    have hfin : (k, left) = R := by
      rcases hcase with ⟨hl, f, hf, hgo⟩ | ⟨_, h⟩
      · obtain ⟨f', rfl⟩ : ∃ f', f = f' + 1 := ⟨f - 1, by omega⟩
        rw [phGo, x1, if_pos (by omega)] at hgo
        rw [← hgo, hl, x1, Int.sub_zero]
      · exact h
    try simp only [r18_0, r18_1, r18_2, r18_3, r18_4, r18_5, r18_6, r18_7, r18_8, r18_9, r18_10, r18_11, r18_12, r18_13, r18_14, r18_15, r18_16, r18_17, r18_18, r18_19, r18_20, r18_21, r18_22, r18_23, r18_25, r18_26, r18_24, r18_27, c18, F18, l18_0, l18_1, q10, go_sem, Int.reduceTMod, Int.reduceTDiv, Int.reduceDiv, Int.reduceMod, Int.reduceAdd, Int.reduceSub, Int.reduceMul, Int.reduceNeg, Int.reducePow, Int.reduceEq, ↓reduceIte, Nat.reduceEqDiff, Nat.reduceAdd, Nat.reduceMul, Nat.reduceLeDiff, Nat.reduceSub, Nat.reduceLT, Int.reduceToNat, Int.reduceLT, Int.reduceLE, reduceCtorEq]
    repeat' ((first | refine FK_split (fun h_ => ?_) (fun h_ => ?_) | refine GK_split (fun h_ => ?_) (fun h_ => ?_) | refine ite_both (fun h_ => ?_) (fun h_ => ?_)) <;> (try simp only [decide_eq_true_eq, decide_eq_false_iff_not, Bool.not_true, Bool.not_false, Bool.not_eq_true', Bool.not_eq_false', Bool.not_eq_eq_eq_not, Decidable.not_not] at h_) <;> (try simp only [r18_0, r18_1, r18_2, r18_3, r18_4, r18_5, r18_6, r18_7, r18_8, r18_9, r18_10, r18_11, r18_12, r18_13, r18_14, r18_15, r18_16, r18_17, r18_18, r18_19, r18_20, r18_21, r18_22, r18_23, r18_25, r18_26, r18_24, r18_27, c18, F18, l18_0, l18_1, q10, h_, go_sem, Int.reduceTMod, Int.reduceTDiv, Int.reduceDiv, Int.reduceMod, Int.reduceAdd, Int.reduceSub, Int.reduceMul, Int.reduceNeg, Int.reducePow, Int.reduceEq, ↓reduceIte, Nat.reduceEqDiff, Nat.reduceAdd, Nat.reduceMul, Nat.reduceLeDiff, Nat.reduceSub, Nat.reduceLT, Int.reduceToNat, Int.reduceLT, Int.reduceLE, reduceCtorEq]))
    refine hK _ ?_ ?_ ?_ qm rfl
    · simp only [q9, go_sem, Int.reduceTMod, Int.reduceTDiv, Int.reduceDiv, Int.reduceMod, Int.reduceAdd, Int.reduceSub, Int.reduceMul, Int.reduceNeg, Int.reducePow, Int.reduceEq, ↓reduceIte, Nat.reduceEqDiff, Nat.reduceAdd, Nat.reduceMul, Nat.reduceLeDiff, Nat.reduceSub, Nat.reduceLT, Int.reduceToNat, Int.reduceLT, Int.reduceLE, reduceCtorEq]
    · simp only [q7, go_sem, Int.reduceTMod, Int.reduceTDiv, Int.reduceDiv, Int.reduceMod, Int.reduceAdd, Int.reduceSub, Int.reduceMul, Int.reduceNeg, Int.reducePow, Int.reduceEq, ↓reduceIte, Nat.reduceEqDiff, Nat.reduceAdd, Nat.reduceMul, Nat.reduceLeDiff, Nat.reduceSub, Nat.reduceLT, Int.reduceToNat, Int.reduceLT, Int.reduceLE, reduceCtorEq]
    · rw [← hfin]
      exact qp

/- A pen that goes along a way. Conditions: those that each theorem names. -/
open Go Go.Proofs
set_option linter.unusedSimpArgs false
set_option linter.unusedVariables false

/-- The pen behind the first lines of a way; none: there are too many pieces. -/
noncomputable def dashTo (pat : List Int) (way : List Pt) (st : Int × Int × List (List Pt)) : Nat → Option (Int × Int × List (List Pt))
  | 0 => some st
  | i + 1 => match dashTo pat way st i with
    | none => none
    | some (k, left, ls) => match way[i]?, way[i + 1]? with
      | some a, some b => lineS pat a b k left ls
      | _, _ => some (k, left, ls)
theorem dashTo_none {pat : List Int} {way : List Pt} {st : Int × Int × List (List Pt)} {i : Nat} (h : dashTo pat way st i = none) : ∀ j, i ≤ j → dashTo pat way st j = none := by
  intro j hj
  induction j with
  | zero => rwa [show i = 0 by omega] at h
  | succ j ih =>
    by_cases e : i = j + 1
    · subst e; exact h
    · rw [dashTo, ih (by omega)]
theorem lg_at {w : List Pt} (h : anyLg w w.length = false) {i : Nat} {p q : Pt} (hp : w[i]? = some p) (hq : w[i + 1]? = some q) : longB (q.x - p.x) (q.y - p.y) = false := by
  have hlt : i + 1 < w.length := (List.getElem?_eq_some_iff.1 hq).1
  have h1 : anyLg w (i + 1 + 1) = false := by
    cases hc : anyLg w (i + 1 + 1)
    · rfl
    · rw [anyLg_mono hc w.length (by omega)] at h; cases h
  rw [anyLg_succ (by omega) (show w[i + 1 - 1]? = some p by rw [Nat.add_sub_cancel]; exact hp) hq, Bool.or_eq_false_iff] at h1
  exact h1.2
abbrev noA : Nat → Prop := fun _ => False
set_option maxHeartbeats 2000000 in
theorem lines_loop {K : Kt} {pat : List Int} {way : List Pt} {ph k left : Int} {ls : List (List Pt)} {pc : Cell} {pid : Nat} {m0 : Mem} {n0 : Nat} {wr : Reg} (hP : PatI pat) (hr : RIn m0 n0 (.one pc) pat) (hb : ∀ id, sid (.one pc) = some id → id < pid)
    (hw : RPt m0 n0 wr way) (hwb : ∀ id, sid wr = some id → id < pid) (hwi : way.all inP = true) (hwl : anyLg way way.length = false) (hw0 : 0 < way.length) (hwm : way.length ≤ 1000000) (hD : DPen noA pid m0 n0 pc ph k left ls) (hI : LineI pat 1 k left ls)
    {e : Nat → Reg} (e12 : e 12 = RI 1) (e9 : e 9 = .one (.ptr pid 0)) (e7 : e 7 = wr)
    (hret : dashTo pat way (k, left, ls) (way.length - 1) = none → ∀ s, s.e 4 = rnil → s.e 5 = RI 36 → KR TA K s)
    (hK : ∀ k' left' ls' s, dashTo pat way (k, left, ls) (way.length - 1) = some (k', left', ls') → s.e 9 = .one (.ptr pid 0) → DPen noA pid s.m s.n pc ph k' left' ls' → LineI pat way.length k' left' ls' → KX TA K 3 s) :
    XK TA (.loop l18_1) ⟨e, m0, n0⟩ K := by
  have hlen := hw.len
  refine XK_iter (inv := fun i s => ∃ (k1 left1 : Int) (ls1 : List (List Pt)), dashTo pat way (k, left, ls) i = some (k1, left1, ls1) ∧ LineI pat (1 + i) k1 left1 ls1 ∧ s.e 12 = RI ((i + 1 : Nat) : Int) ∧ s.e 9 = .one (.ptr pid 0) ∧ s.e 7 = wr ∧ n0 ≤ s.n ∧ DPen noA pid s.m s.n pc ph k1 left1 ls1 ∧ (∀ id, id < pid → s.m id = m0 id)) (way.length - 1)
    (fun L _ => ⟨fun i hi s hs next => ?_, fun s hs => ?_⟩) 0 (by omega) _ ⟨k, left, ls, rfl, hI, e12, e9, e7, Nat.le_refl _, hD, fun _ _ => rfl⟩
  · obtain ⟨e, M, N⟩ := s
    obtain ⟨k1, left1, ls1, hd, hI1, q12, q9, q7, qn, qD, qm⟩ := hs
    simp only at q12 q9 q7 qn qD qm
    have hpn : pid < N := by obtain ⟨_, _, h2, _⟩ := qD; exact h2
    have hp : way[i]? = some (way[i]'(by omega)) := List.getElem?_eq_getElem (by omega)
    have hq : way[i + 1]? = some (way[i + 1]'(by omega)) := List.getElem?_eq_getElem (by omega)
    have hwM : RPt M N wr way := hw.keep' qn (fun id hid => qm id (hwb id hid))
    have hrM : RIn M N (.one pc) pat := hr.keep' qn (fun id hid => qm id (hb id hid))
    obtain ⟨id, off, cap, hr1, hid, hrd⟩ := hwM.at cs2 hp
    obtain ⟨id', off', cap', hr1', _, hrd'⟩ := hwM.at cs2 hq
    rw [hr1] at hr1'
    simp only [Reg.one.injEq, Cell.sl.injEq, true_and] at hr1'
    obtain ⟨rfl, rfl, rfl, _⟩ := hr1'
    have hpi : inP (way[i]'(by omega)) = true := List.all_eq_true.1 hwi _ (List.getElem_mem (by omega))
    have hqi : inP (way[i + 1]'(by omega)) = true := List.all_eq_true.1 hwi _ (List.getElem_mem (by omega))
    have hlg := lg_at hwl hp hq
    have hsn : dashTo pat way (k, left, ls) (i + 1) = lineS pat (way[i]'(by omega)) (way[i + 1]'(by omega)) k1 left1 ls1 := by rw [dashTo, hd, hp, hq]
    generalize (way[i]'(by omega)) = a at *
    generalize (way[i + 1]'(by omega)) = b at *
    have c1 : (((i + 1 : Nat) : Int) < (way.length : Int)) = True := eq_true (by omega)
    have c2 : IntKind.i64.wrap (((i + 1 : Nat) : Int) - 1) = (i : Int) := (wr_eq (by omega) (by omega)).trans (by omega)
    have c3 : (0 ≤ (i : Int)) = True := eq_true (by omega)
    have c4 : ((i : Int) < (way.length : Int)) = True := eq_true (by omega)
    have c5 : (0 ≤ ((i + 1 : Nat) : Int)) = True := eq_true (by omega)
    have c6 : IntKind.i64.wrap (((i + 1 : Nat) : Int) + 1) = ((i + 1 + 1 : Nat) : Int) := wr_nat (by omega)
    rw [hr1] at q7
    try simp only [r18_0, r18_1, r18_2, r18_3, r18_4, r18_5, r18_6, r18_7, r18_8, r18_9, r18_10, r18_11, r18_12, r18_13, r18_14, r18_15, r18_16, r18_17, r18_18, r18_19, r18_20, r18_21, r18_22, r18_23, r18_25, r18_26, r18_24, r18_27, c18, F18, l18_0, l18_1, q12, q9, q7, c1, c2, c3, c4, c5, hrd, hrd', lenO, Int.toNat_natCast, go_sem, Int.reduceTMod, Int.reduceTDiv, Int.reduceDiv, Int.reduceMod, Int.reduceAdd, Int.reduceSub, Int.reduceMul, Int.reduceNeg, Int.reducePow, Int.reduceEq, ↓reduceIte, Nat.reduceEqDiff, Nat.reduceAdd, Nat.reduceMul, Nat.reduceLeDiff, Nat.reduceSub, Nat.reduceLT, Int.reduceToNat, Int.reduceLT, Int.reduceLE, reduceCtorEq]
    repeat' ((first | refine FK_split (fun h_ => ?_) (fun h_ => ?_) | refine GK_split (fun h_ => ?_) (fun h_ => ?_) | refine ite_both (fun h_ => ?_) (fun h_ => ?_)) <;> (try simp only [decide_eq_true_eq, decide_eq_false_iff_not, Bool.not_true, Bool.not_false, Bool.not_eq_true', Bool.not_eq_false', Bool.not_eq_eq_eq_not, Decidable.not_not] at h_) <;> (try simp only [r18_0, r18_1, r18_2, r18_3, r18_4, r18_5, r18_6, r18_7, r18_8, r18_9, r18_10, r18_11, r18_12, r18_13, r18_14, r18_15, r18_16, r18_17, r18_18, r18_19, r18_20, r18_21, r18_22, r18_23, r18_25, r18_26, r18_24, r18_27, c18, F18, l18_0, l18_1, q12, q9, q7, c1, c2, c3, c4, c5, hrd, hrd', lenO, Int.toNat_natCast, h_, go_sem, Int.reduceTMod, Int.reduceTDiv, Int.reduceDiv, Int.reduceMod, Int.reduceAdd, Int.reduceSub, Int.reduceMul, Int.reduceNeg, Int.reducePow, Int.reduceEq, ↓reduceIte, Nat.reduceEqDiff, Nat.reduceAdd, Nat.reduceMul, Nat.reduceLeDiff, Nat.reduceSub, Nat.reduceLT, Int.reduceToNat, Int.reduceLT, Int.reduceLE, reduceCtorEq]))
    refine RK_callw ?_
    refine (w_line (a := a) (b := b) qD (fun j h => h.elim) (fun h => h) hrM hb hP hI1 (by omega) hpi hqi hlg).mono ?_
    rintro r2 m2 n2 ⟨hn2, hf2, hx1, hx2⟩
    rw [← hsn] at hx1 hx2
    cases hres : dashTo pat way (k, left, ls) (i + 1) with
    | none =>
      have hr2 := hx1 hres
      subst hr2
      try simp only [r18_0, r18_1, r18_2, r18_3, r18_4, r18_5, r18_6, r18_7, r18_8, r18_9, r18_10, r18_11, r18_12, r18_13, r18_14, r18_15, r18_16, r18_17, r18_18, r18_19, r18_20, r18_21, r18_22, r18_23, r18_25, r18_26, r18_24, r18_27, c18, F18, go_sem, Int.reduceTMod, Int.reduceTDiv, Int.reduceDiv, Int.reduceMod, Int.reduceAdd, Int.reduceSub, Int.reduceMul, Int.reduceNeg, Int.reducePow, Int.reduceEq, ↓reduceIte, Nat.reduceEqDiff, Nat.reduceAdd, Nat.reduceMul, Nat.reduceLeDiff, Nat.reduceSub, Nat.reduceLT, Int.reduceToNat, Int.reduceLT, Int.reduceLE, reduceCtorEq]
      repeat' ((first | refine FK_split (fun h_ => ?_) (fun h_ => ?_) | refine GK_split (fun h_ => ?_) (fun h_ => ?_) | refine ite_both (fun h_ => ?_) (fun h_ => ?_)) <;> (try simp only [decide_eq_true_eq, decide_eq_false_iff_not, Bool.not_true, Bool.not_false, Bool.not_eq_true', Bool.not_eq_false', Bool.not_eq_eq_eq_not, Decidable.not_not] at h_) <;> (try simp only [r18_0, r18_1, r18_2, r18_3, r18_4, r18_5, r18_6, r18_7, r18_8, r18_9, r18_10, r18_11, r18_12, r18_13, r18_14, r18_15, r18_16, r18_17, r18_18, r18_19, r18_20, r18_21, r18_22, r18_23, r18_25, r18_26, r18_24, r18_27, c18, F18, h_, go_sem, Int.reduceTMod, Int.reduceTDiv, Int.reduceDiv, Int.reduceMod, Int.reduceAdd, Int.reduceSub, Int.reduceMul, Int.reduceNeg, Int.reducePow, Int.reduceEq, ↓reduceIte, Nat.reduceEqDiff, Nat.reduceAdd, Nat.reduceMul, Nat.reduceLeDiff, Nat.reduceSub, Nat.reduceLT, Int.reduceToNat, Int.reduceLT, Int.reduceLE, reduceCtorEq]))
      refine hret (dashTo_none hres _ (by omega)) _ ?_ ?_
      · simp only [go_sem, Int.reduceTMod, Int.reduceTDiv, Int.reduceDiv, Int.reduceMod, Int.reduceAdd, Int.reduceSub, Int.reduceMul, Int.reduceNeg, Int.reducePow, Int.reduceEq, ↓reduceIte, Nat.reduceEqDiff, Nat.reduceAdd, Nat.reduceMul, Nat.reduceLeDiff, Nat.reduceSub, Nat.reduceLT, Int.reduceToNat, Int.reduceLT, Int.reduceLE, reduceCtorEq]
      · simp only [go_sem, Int.reduceTMod, Int.reduceTDiv, Int.reduceDiv, Int.reduceMod, Int.reduceAdd, Int.reduceSub, Int.reduceMul, Int.reduceNeg, Int.reducePow, Int.reduceEq, ↓reduceIte, Nat.reduceEqDiff, Nat.reduceAdd, Nat.reduceMul, Nat.reduceLeDiff, Nat.reduceSub, Nat.reduceLT, Int.reduceToNat, Int.reduceLT, Int.reduceLE, reduceCtorEq]
    | some st =>
      obtain ⟨k2, left2, ls2⟩ := st
      obtain ⟨rfl, hD2, hI2⟩ := hx2 k2 left2 ls2 hres
      try simp only [r18_0, r18_1, r18_2, r18_3, r18_4, r18_5, r18_6, r18_7, r18_8, r18_9, r18_10, r18_11, r18_12, r18_13, r18_14, r18_15, r18_16, r18_17, r18_18, r18_19, r18_20, r18_21, r18_22, r18_23, r18_25, r18_26, r18_24, r18_27, c18, F18, q12, c6, go_sem, Int.reduceTMod, Int.reduceTDiv, Int.reduceDiv, Int.reduceMod, Int.reduceAdd, Int.reduceSub, Int.reduceMul, Int.reduceNeg, Int.reducePow, Int.reduceEq, ↓reduceIte, Nat.reduceEqDiff, Nat.reduceAdd, Nat.reduceMul, Nat.reduceLeDiff, Nat.reduceSub, Nat.reduceLT, Int.reduceToNat, Int.reduceLT, Int.reduceLE, reduceCtorEq]
      repeat' ((first | refine FK_split (fun h_ => ?_) (fun h_ => ?_) | refine GK_split (fun h_ => ?_) (fun h_ => ?_) | refine ite_both (fun h_ => ?_) (fun h_ => ?_)) <;> (try simp only [decide_eq_true_eq, decide_eq_false_iff_not, Bool.not_true, Bool.not_false, Bool.not_eq_true', Bool.not_eq_false', Bool.not_eq_eq_eq_not, Decidable.not_not] at h_) <;> (try simp only [r18_0, r18_1, r18_2, r18_3, r18_4, r18_5, r18_6, r18_7, r18_8, r18_9, r18_10, r18_11, r18_12, r18_13, r18_14, r18_15, r18_16, r18_17, r18_18, r18_19, r18_20, r18_21, r18_22, r18_23, r18_25, r18_26, r18_24, r18_27, c18, F18, q12, c6, h_, go_sem, Int.reduceTMod, Int.reduceTDiv, Int.reduceDiv, Int.reduceMod, Int.reduceAdd, Int.reduceSub, Int.reduceMul, Int.reduceNeg, Int.reducePow, Int.reduceEq, ↓reduceIte, Nat.reduceEqDiff, Nat.reduceAdd, Nat.reduceMul, Nat.reduceLeDiff, Nat.reduceSub, Nat.reduceLT, Int.reduceToNat, Int.reduceLT, Int.reduceLE, reduceCtorEq]))
      refine next _ ⟨k2, left2, ls2, hres, ?_, ?_, ?_, ?_, ?_, hD2, fun id hid => ?_⟩
      · have e : (1 : Int) + ((i + 1 : Nat) : Int) = 1 + (i : Int) + 1 := by omega
        rw [e]
        exact hI2
      · simp only [go_sem, Int.reduceTMod, Int.reduceTDiv, Int.reduceDiv, Int.reduceMod, Int.reduceAdd, Int.reduceSub, Int.reduceMul, Int.reduceNeg, Int.reducePow, Int.reduceEq, ↓reduceIte, Nat.reduceEqDiff, Nat.reduceAdd, Nat.reduceMul, Nat.reduceLeDiff, Nat.reduceSub, Nat.reduceLT, Int.reduceToNat, Int.reduceLT, Int.reduceLE, reduceCtorEq]
      · simp only [q9, go_sem, Int.reduceTMod, Int.reduceTDiv, Int.reduceDiv, Int.reduceMod, Int.reduceAdd, Int.reduceSub, Int.reduceMul, Int.reduceNeg, Int.reducePow, Int.reduceEq, ↓reduceIte, Nat.reduceEqDiff, Nat.reduceAdd, Nat.reduceMul, Nat.reduceLeDiff, Nat.reduceSub, Nat.reduceLT, Int.reduceToNat, Int.reduceLT, Int.reduceLE, reduceCtorEq]
      · simp only [q7, hr1, go_sem, Int.reduceTMod, Int.reduceTDiv, Int.reduceDiv, Int.reduceMod, Int.reduceAdd, Int.reduceSub, Int.reduceMul, Int.reduceNeg, Int.reducePow, Int.reduceEq, ↓reduceIte, Nat.reduceEqDiff, Nat.reduceAdd, Nat.reduceMul, Nat.reduceLeDiff, Nat.reduceSub, Nat.reduceLT, Int.reduceToNat, Int.reduceLT, Int.reduceLE, reduceCtorEq]
      · simp only
        omega
      · simp only
        rw [hf2 id (by omega) (Or.inl hid)]
        exact qm id hid
  · obtain ⟨e, M, N⟩ := s
    obtain ⟨k1, left1, ls1, hd, hI1, q12, q9, q7, qn, qD, qm⟩ := hs
    simp only at q12 q9 q7 qn qD qm
    have c1 : (((way.length - 1 + 1 : Nat) : Int) < (way.length : Int)) = False := eq_false (by omega)
    try simp only [r18_0, r18_1, r18_2, r18_3, r18_4, r18_5, r18_6, r18_7, r18_8, r18_9, r18_10, r18_11, r18_12, r18_13, r18_14, r18_15, r18_16, r18_17, r18_18, r18_19, r18_20, r18_21, r18_22, r18_23, r18_25, r18_26, r18_24, r18_27, c18, F18, l18_0, l18_1, q12, q7, hlen, c1, go_sem, Int.reduceTMod, Int.reduceTDiv, Int.reduceDiv, Int.reduceMod, Int.reduceAdd, Int.reduceSub, Int.reduceMul, Int.reduceNeg, Int.reducePow, Int.reduceEq, ↓reduceIte, Nat.reduceEqDiff, Nat.reduceAdd, Nat.reduceMul, Nat.reduceLeDiff, Nat.reduceSub, Nat.reduceLT, Int.reduceToNat, Int.reduceLT, Int.reduceLE, reduceCtorEq]
    repeat' ((first | refine FK_split (fun h_ => ?_) (fun h_ => ?_) | refine GK_split (fun h_ => ?_) (fun h_ => ?_) | refine ite_both (fun h_ => ?_) (fun h_ => ?_)) <;> (try simp only [decide_eq_true_eq, decide_eq_false_iff_not, Bool.not_true, Bool.not_false, Bool.not_eq_true', Bool.not_eq_false', Bool.not_eq_eq_eq_not, Decidable.not_not] at h_) <;> (try simp only [r18_0, r18_1, r18_2, r18_3, r18_4, r18_5, r18_6, r18_7, r18_8, r18_9, r18_10, r18_11, r18_12, r18_13, r18_14, r18_15, r18_16, r18_17, r18_18, r18_19, r18_20, r18_21, r18_22, r18_23, r18_25, r18_26, r18_24, r18_27, c18, F18, l18_0, l18_1, q12, q7, hlen, c1, h_, go_sem, Int.reduceTMod, Int.reduceTDiv, Int.reduceDiv, Int.reduceMod, Int.reduceAdd, Int.reduceSub, Int.reduceMul, Int.reduceNeg, Int.reducePow, Int.reduceEq, ↓reduceIte, Nat.reduceEqDiff, Nat.reduceAdd, Nat.reduceMul, Nat.reduceLeDiff, Nat.reduceSub, Nat.reduceLT, Int.reduceToNat, Int.reduceLT, Int.reduceLE, reduceCtorEq]))
    refine hK _ _ _ _ hd ?_ qD ?_
    · simp only [q9, go_sem, Int.reduceTMod, Int.reduceTDiv, Int.reduceDiv, Int.reduceMod, Int.reduceAdd, Int.reduceSub, Int.reduceMul, Int.reduceNeg, Int.reducePow, Int.reduceEq, ↓reduceIte, Nat.reduceEqDiff, Nat.reduceAdd, Nat.reduceMul, Nat.reduceLeDiff, Nat.reduceSub, Nat.reduceLT, Int.reduceToNat, Int.reduceLT, Int.reduceLE, reduceCtorEq]
    · have e : (1 : Int) + ((way.length - 1 : Nat) : Int) = (way.length : Int) := by omega
      rw [e] at hI1
      exact hI1

/- The pieces of a subpath walked. Conditions: those that each theorem names. -/
open Go Go.Proofs
set_option linter.unusedSimpArgs false
set_option linter.unusedVariables false

/-- The pen where a way begins. -/
def pen0 (pat : List Int) (ph : Int) (way : List Pt) : Int × Int × List (List Pt) := ((phS pat ph).1, (phS pat ph).2, if (phS pat ph).1 % 2 = 0 then (way.take 1).map (fun p => [p]) else [])
noncomputable def dashL (pat : List Int) (ph : Int) (way : List Pt) : Option (List (List Pt)) := (dashTo pat way (pen0 pat ph way) (way.length - 1)).map (·.2.2)
structure DashQ (l way : List Pt) (c : Bool) (pat : List Int) (ph : Int) (n : Nat) (x : Reg) (k : Int) (m' : Mem) (n' : Nat) : Prop where
  bad : rightB pat ph = false ∨ l.all inP = false → x = rnil ∧ k = 30
  long : rightB pat ph = true → l.all inP = true → anyLg way way.length = true → x = rnil ∧ k = 10
  none : rightB pat ph = true → l.all inP = true → anyLg way way.length = false → way = [] → x = rnil ∧ k = 0
  whole : rightB pat ph = true → l.all inP = true → anyLg way way.length = false → way ≠ [] → pat = [] →
    k = 0 ∧ ∃ id cl, x = .one (.sl id 0 1 (some 1) 2) ∧ n ≤ id ∧ id < n' ∧ m' id = some ⟨[cl, .sc (.bool c)], true⟩ ∧ RPt m' n' (.one cl) l ∧ ∀ j, sid (.one cl) = some j → n ≤ j
  many : rightB pat ph = true → l.all inP = true → anyLg way way.length = false → way ≠ [] → pat ≠ [] → dashL pat ph way = .none → x = rnil ∧ k = 36
  some : rightB pat ph = true → l.all inP = true → anyLg way way.length = false → way ≠ [] → pat ≠ [] → ∀ ls, dashL pat ph way = .some ls → k = 0 ∧ ∃ oc pid, x = .one oc ∧ n ≤ pid ∧ OSb noA pid m' n' oc ls
theorem right_pat {pat : List Int} {ph : Int} (h : rightB pat ph = true) (hne : pat ≠ []) : PatI pat ∧ 0 ≤ ph ∧ ph ≤ 8388608 := by
  unfold rightB at h
  rw [if_neg hne] at h
  split at h
  · rename_i e2
    simp only [Bool.and_eq_true, decide_eq_true_eq] at h
    have hs := sum_bd pat h.1
    exact ⟨⟨by omega, by omega, by omega, fun x hx => okD_iff.1 (List.all_eq_true.1 h.1 x hx)⟩, h.2.1, by omega⟩
  · cases h
set_option maxHeartbeats 4000000 in
theorem w_Dash {c0 pc : Cell} {l : List Pt} {c : Bool} {pat : List Int} {ph : Int} {m : Mem} {n : Nat} (hr : RPt m n (.one c0) l) (hpr : RIn m n (.one pc) pat) (hl : l.length ≤ 900000) (hpl : pat.length < 4294967296) :
    Fn TA 18 [.agg [c0, .sc (.bool c)], .agg [pc, I ph]] m n (fun r' m' n' => ∃ x k, r' = .tup [x, RI k] ∧ DashQ l (wayL l c) c pat ph n x k m' n') := by
  refine Fn_ofK (fn := F18) rfl (by simp [F18]) ?_
  obtain ⟨M0, hM0⟩ : ∃ M0, M0 = upd (upd m n (some ⟨[c0, .sc (.bool c)], true⟩)) (n + 1) (some ⟨[pc, I ph], true⟩) := ⟨_, rfl⟩
  have hf0 : ∀ id, id < n → M0 id = m id := fun id hid => by rw [hM0, upd_ne _ _ (by omega), upd_ne _ _ (by omega)]
  have hb0 : M0 n = some ⟨[c0, .sc (.bool c)], true⟩ := by rw [hM0, upd_ne _ _ (by omega), upd_same]
  have hb1 : M0 (n + 1) = some ⟨[pc, I ph], true⟩ := by rw [hM0, upd_same]
  have hr0 : RPt M0 (n + 2) (.one c0) l := hr.keep (by omega) hf0
  have hp0 : RIn M0 (n + 2) (.one pc) pat := hpr.keep (by omega) hf0
  have vC := v_Check pc pat ph (frz M0) (n + 2) hp0.frz hpl
  cases hright : rightB pat ph
  · rw [hright] at vC
    rw [hM0] at vC
    try simp only [r18_0, r18_1, r18_2, r18_3, r18_4, r18_5, r18_6, r18_7, r18_8, r18_9, r18_10, r18_11, r18_12, r18_13, r18_14, r18_15, r18_16, r18_17, r18_18, r18_19, r18_20, r18_21, r18_22, r18_23, r18_25, r18_26, r18_24, r18_27, c18, F18, vC, go_sem, Int.reduceTMod, Int.reduceTDiv, Int.reduceDiv, Int.reduceMod, Int.reduceAdd, Int.reduceSub, Int.reduceMul, Int.reduceNeg, Int.reducePow, Int.reduceEq, ↓reduceIte, Nat.reduceEqDiff, Nat.reduceAdd, Nat.reduceMul, Nat.reduceLeDiff, Nat.reduceSub, Nat.reduceLT, Int.reduceToNat, Int.reduceLT, Int.reduceLE, reduceCtorEq]
    repeat' ((first | refine FK_split (fun h_ => ?_) (fun h_ => ?_) | refine GK_split (fun h_ => ?_) (fun h_ => ?_) | refine ite_both (fun h_ => ?_) (fun h_ => ?_)) <;> (try simp only [decide_eq_true_eq, decide_eq_false_iff_not, Bool.not_true, Bool.not_false, Bool.not_eq_true', Bool.not_eq_false', Bool.not_eq_eq_eq_not, Decidable.not_not] at h_) <;> (try simp only [r18_0, r18_1, r18_2, r18_3, r18_4, r18_5, r18_6, r18_7, r18_8, r18_9, r18_10, r18_11, r18_12, r18_13, r18_14, r18_15, r18_16, r18_17, r18_18, r18_19, r18_20, r18_21, r18_22, r18_23, r18_25, r18_26, r18_24, r18_27, c18, F18, vC, h_, go_sem, Int.reduceTMod, Int.reduceTDiv, Int.reduceDiv, Int.reduceMod, Int.reduceAdd, Int.reduceSub, Int.reduceMul, Int.reduceNeg, Int.reducePow, Int.reduceEq, ↓reduceIte, Nat.reduceEqDiff, Nat.reduceAdd, Nat.reduceMul, Nat.reduceLeDiff, Nat.reduceSub, Nat.reduceLT, Int.reduceToNat, Int.reduceLT, Int.reduceLE, reduceCtorEq]))
    exact ⟨rnil, 30, rfl, ⟨fun _ => ⟨rfl, rfl⟩, fun h => (by rw [hright] at h; cases h), fun h => (by rw [hright] at h; cases h), fun h => (by rw [hright] at h; cases h), fun h => (by rw [hright] at h; cases h), fun h => (by rw [hright] at h; cases h)⟩⟩
  · rw [hright] at vC
    rw [hM0] at vC
    try simp only [r18_0, r18_1, r18_2, r18_3, r18_4, r18_5, r18_6, r18_7, r18_8, r18_9, r18_10, r18_11, r18_12, r18_13, r18_14, r18_15, r18_16, r18_17, r18_18, r18_19, r18_20, r18_21, r18_22, r18_23, r18_25, r18_26, r18_24, r18_27, c18, F18, vC, go_sem, Int.reduceTMod, Int.reduceTDiv, Int.reduceDiv, Int.reduceMod, Int.reduceAdd, Int.reduceSub, Int.reduceMul, Int.reduceNeg, Int.reducePow, Int.reduceEq, ↓reduceIte, Nat.reduceEqDiff, Nat.reduceAdd, Nat.reduceMul, Nat.reduceLeDiff, Nat.reduceSub, Nat.reduceLT, Int.reduceToNat, Int.reduceLT, Int.reduceLE, reduceCtorEq]
    repeat' ((first | refine FK_split (fun h_ => ?_) (fun h_ => ?_) | refine GK_split (fun h_ => ?_) (fun h_ => ?_) | refine ite_both (fun h_ => ?_) (fun h_ => ?_)) <;> (try simp only [decide_eq_true_eq, decide_eq_false_iff_not, Bool.not_true, Bool.not_false, Bool.not_eq_true', Bool.not_eq_false', Bool.not_eq_eq_eq_not, Decidable.not_not] at h_) <;> (try simp only [r18_0, r18_1, r18_2, r18_3, r18_4, r18_5, r18_6, r18_7, r18_8, r18_9, r18_10, r18_11, r18_12, r18_13, r18_14, r18_15, r18_16, r18_17, r18_18, r18_19, r18_20, r18_21, r18_22, r18_23, r18_25, r18_26, r18_24, r18_27, c18, F18, vC, h_, go_sem, Int.reduceTMod, Int.reduceTDiv, Int.reduceDiv, Int.reduceMod, Int.reduceAdd, Int.reduceSub, Int.reduceMul, Int.reduceNeg, Int.reducePow, Int.reduceEq, ↓reduceIte, Nat.reduceEqDiff, Nat.reduceAdd, Nat.reduceMul, Nat.reduceLeDiff, Nat.reduceSub, Nat.reduceLT, Int.reduceToNat, Int.reduceLT, Int.reduceLE, reduceCtorEq]))
    rw [← hM0]
    refine RK_callk ?_
    refine (w_Way c0 l c _ _ hr0.frz (by omega)).mono ?_
    rintro r1 m1 n1 ⟨hn1, x, k, rfl, hq1, hq2, hq3⟩
    obtain ⟨M1, hM1⟩ : ∃ M1, M1 = unfrz M0 (n + 2) m1 := ⟨_, rfl⟩
    rw [← hM1, show max (n + 2) n1 = n1 by omega]
    cases hi : l.all inP
    · obtain ⟨rfl, rfl⟩ := hq1 hi
      try simp only [r18_0, r18_1, r18_2, r18_3, r18_4, r18_5, r18_6, r18_7, r18_8, r18_9, r18_10, r18_11, r18_12, r18_13, r18_14, r18_15, r18_16, r18_17, r18_18, r18_19, r18_20, r18_21, r18_22, r18_23, r18_25, r18_26, r18_24, r18_27, c18, F18, go_sem, Int.reduceTMod, Int.reduceTDiv, Int.reduceDiv, Int.reduceMod, Int.reduceAdd, Int.reduceSub, Int.reduceMul, Int.reduceNeg, Int.reducePow, Int.reduceEq, ↓reduceIte, Nat.reduceEqDiff, Nat.reduceAdd, Nat.reduceMul, Nat.reduceLeDiff, Nat.reduceSub, Nat.reduceLT, Int.reduceToNat, Int.reduceLT, Int.reduceLE, reduceCtorEq]
      repeat' ((first | refine FK_split (fun h_ => ?_) (fun h_ => ?_) | refine GK_split (fun h_ => ?_) (fun h_ => ?_) | refine ite_both (fun h_ => ?_) (fun h_ => ?_)) <;> (try simp only [decide_eq_true_eq, decide_eq_false_iff_not, Bool.not_true, Bool.not_false, Bool.not_eq_true', Bool.not_eq_false', Bool.not_eq_eq_eq_not, Decidable.not_not] at h_) <;> (try simp only [r18_0, r18_1, r18_2, r18_3, r18_4, r18_5, r18_6, r18_7, r18_8, r18_9, r18_10, r18_11, r18_12, r18_13, r18_14, r18_15, r18_16, r18_17, r18_18, r18_19, r18_20, r18_21, r18_22, r18_23, r18_25, r18_26, r18_24, r18_27, c18, F18, h_, go_sem, Int.reduceTMod, Int.reduceTDiv, Int.reduceDiv, Int.reduceMod, Int.reduceAdd, Int.reduceSub, Int.reduceMul, Int.reduceNeg, Int.reducePow, Int.reduceEq, ↓reduceIte, Nat.reduceEqDiff, Nat.reduceAdd, Nat.reduceMul, Nat.reduceLeDiff, Nat.reduceSub, Nat.reduceLT, Int.reduceToNat, Int.reduceLT, Int.reduceLE, reduceCtorEq]))
      exact ⟨rnil, 30, rfl, ⟨fun _ => ⟨rfl, rfl⟩, fun _ h => (by rw [hi] at h; cases h), fun _ h => (by rw [hi] at h; cases h), fun _ h => (by rw [hi] at h; cases h), fun _ h => (by rw [hi] at h; cases h), fun _ h => (by rw [hi] at h; cases h)⟩⟩
    · cases hlg : anyLg (wayL l c) (wayL l c).length
      · obtain ⟨rfl, hw1, hw2⟩ := hq3 hi hlg
        have nobad : (rightB pat ph = false ∨ l.all inP = false) → False := fun h => by rcases h with h | h <;> first | (rw [hright] at h; cases h) | (rw [hi] at h; cases h)
        have nolong : anyLg (wayL l c) (wayL l c).length = true → False := fun h => by rw [hlg] at h; cases h
        have hwl := way_len l c
        have hwi := way_all (c := c) hi
        have hf1 : ∀ id, id < n + 2 → M1 id = M0 id := fun id hid => by rw [hM1, unfrz_at, if_pos hid]
        have hw3 : RPt M1 n1 x (wayL l c) := hw1.keep' (Nat.le_refl _) (fun id hid => by rw [hM1, unfrz_at, if_neg (by have := hw2 id hid; omega)])
        have hlen := hw3.len
        generalize wayL l c = way at *
        by_cases hwe : way.length = 0
        · have hwe' : way = [] := List.length_eq_zero_iff.1 hwe
          have g1 : ((way.length : Int) = 0) = True := eq_true (by omega)
          try simp only [r18_0, r18_1, r18_2, r18_3, r18_4, r18_5, r18_6, r18_7, r18_8, r18_9, r18_10, r18_11, r18_12, r18_13, r18_14, r18_15, r18_16, r18_17, r18_18, r18_19, r18_20, r18_21, r18_22, r18_23, r18_25, r18_26, r18_24, r18_27, c18, F18, hlen, g1, go_sem, Int.reduceTMod, Int.reduceTDiv, Int.reduceDiv, Int.reduceMod, Int.reduceAdd, Int.reduceSub, Int.reduceMul, Int.reduceNeg, Int.reducePow, Int.reduceEq, ↓reduceIte, Nat.reduceEqDiff, Nat.reduceAdd, Nat.reduceMul, Nat.reduceLeDiff, Nat.reduceSub, Nat.reduceLT, Int.reduceToNat, Int.reduceLT, Int.reduceLE, reduceCtorEq]
          repeat' ((first | refine FK_split (fun h_ => ?_) (fun h_ => ?_) | refine GK_split (fun h_ => ?_) (fun h_ => ?_) | refine ite_both (fun h_ => ?_) (fun h_ => ?_)) <;> (try simp only [decide_eq_true_eq, decide_eq_false_iff_not, Bool.not_true, Bool.not_false, Bool.not_eq_true', Bool.not_eq_false', Bool.not_eq_eq_eq_not, Decidable.not_not] at h_) <;> (try simp only [r18_0, r18_1, r18_2, r18_3, r18_4, r18_5, r18_6, r18_7, r18_8, r18_9, r18_10, r18_11, r18_12, r18_13, r18_14, r18_15, r18_16, r18_17, r18_18, r18_19, r18_20, r18_21, r18_22, r18_23, r18_25, r18_26, r18_24, r18_27, c18, F18, hlen, g1, h_, go_sem, Int.reduceTMod, Int.reduceTDiv, Int.reduceDiv, Int.reduceMod, Int.reduceAdd, Int.reduceSub, Int.reduceMul, Int.reduceNeg, Int.reducePow, Int.reduceEq, ↓reduceIte, Nat.reduceEqDiff, Nat.reduceAdd, Nat.reduceMul, Nat.reduceLeDiff, Nat.reduceSub, Nat.reduceLT, Int.reduceToNat, Int.reduceLT, Int.reduceLE, reduceCtorEq]))
          exact ⟨rnil, 0, rfl, ⟨fun h => (nobad h).elim, fun _ _ h => (nolong h).elim, fun _ _ _ _ => ⟨rfl, rfl⟩, fun _ _ _ h => absurd hwe' h, fun _ _ _ h => absurd hwe' h, fun _ _ _ h => absurd hwe' h⟩⟩
        · have hwe' : way ≠ [] := fun e => hwe (by rw [e]; rfl)
          have g1 : ((way.length : Int) = 0) = False := eq_false (by omega)
          have hb2 : M1 n = some ⟨[c0, .sc (.bool c)], true⟩ := by rw [hf1 n (by omega)]; exact hb0
          have hb3 : M1 (n + 1) = some ⟨[pc, I ph], true⟩ := by rw [hf1 (n + 1) (by omega)]; exact hb1
          have hr2 : RPt M1 n1 (.one c0) l := hr0.keep hn1 hf1
          have hp2 : RIn M1 n1 (.one pc) pat := hp0.keep hn1 hf1
          have hpl2 := hp2.len
          by_cases hpe : pat.length = 0
          · have hpe' : pat = [] := List.length_eq_zero_iff.1 hpe
            have g2 : ((pat.length : Int) = 0) = True := eq_true (by omega)
            try simp only [r18_0, r18_1, r18_2, r18_3, r18_4, r18_5, r18_6, r18_7, r18_8, r18_9, r18_10, r18_11, r18_12, r18_13, r18_14, r18_15, r18_16, r18_17, r18_18, r18_19, r18_20, r18_21, r18_22, r18_23, r18_25, r18_26, r18_24, r18_27, c18, F18, hlen, g1, hb2, rd_of hb2, hb3, rd_of hb3, hpl2, g2, go_sem, Int.reduceTMod, Int.reduceTDiv, Int.reduceDiv, Int.reduceMod, Int.reduceAdd, Int.reduceSub, Int.reduceMul, Int.reduceNeg, Int.reducePow, Int.reduceEq, ↓reduceIte, Nat.reduceEqDiff, Nat.reduceAdd, Nat.reduceMul, Nat.reduceLeDiff, Nat.reduceSub, Nat.reduceLT, Int.reduceToNat, Int.reduceLT, Int.reduceLE, reduceCtorEq]
            repeat' ((first | refine FK_split (fun h_ => ?_) (fun h_ => ?_) | refine GK_split (fun h_ => ?_) (fun h_ => ?_) | refine ite_both (fun h_ => ?_) (fun h_ => ?_)) <;> (try simp only [decide_eq_true_eq, decide_eq_false_iff_not, Bool.not_true, Bool.not_false, Bool.not_eq_true', Bool.not_eq_false', Bool.not_eq_eq_eq_not, Decidable.not_not] at h_) <;> (try simp only [r18_0, r18_1, r18_2, r18_3, r18_4, r18_5, r18_6, r18_7, r18_8, r18_9, r18_10, r18_11, r18_12, r18_13, r18_14, r18_15, r18_16, r18_17, r18_18, r18_19, r18_20, r18_21, r18_22, r18_23, r18_25, r18_26, r18_24, r18_27, c18, F18, hlen, g1, hb2, rd_of hb2, hb3, rd_of hb3, hpl2, g2, h_, go_sem, Int.reduceTMod, Int.reduceTDiv, Int.reduceDiv, Int.reduceMod, Int.reduceAdd, Int.reduceSub, Int.reduceMul, Int.reduceNeg, Int.reducePow, Int.reduceEq, ↓reduceIte, Nat.reduceEqDiff, Nat.reduceAdd, Nat.reduceMul, Nat.reduceLeDiff, Nat.reduceSub, Nat.reduceLT, Int.reduceToNat, Int.reduceLT, Int.reduceLE, reduceCtorEq]))
            refine RK_callk ?_
            refine (w_Clone _ l _ _ hr2.frz (by omega)).mono ?_
            rintro r2 m2 n2 ⟨hc, hn2⟩
            obtain ⟨M2, hM2⟩ : ∃ M2, M2 = unfrz M1 n1 m2 := ⟨_, rfl⟩
            rw [← hM2, show max n1 n2 = n2 by omega]
            have hb4 : M2 n = some ⟨[c0, .sc (.bool c)], true⟩ := by rw [hM2, unfrz_at, if_pos (by omega)]; exact hb2
            have hcl : ∃ cl, r2 = .one cl ∧ RPt M2 n2 (.one cl) l ∧ ∀ j, sid (.one cl) = some j → n ≤ j := by
              rcases hc with ⟨rfl, rfl⟩ | ⟨id, cap, rfl, q1, q2, q3, q4⟩
              · exact ⟨_, rfl, RL.nil, fun j hj => by cases hj⟩
              · refine ⟨_, rfl, Or.inr ⟨id, 0, cap, rfl, q2, ?_⟩, fun j hj => by simp only [sid, Option.some.injEq] at hj; omega⟩
                have hfl := flatMap_len Pt.cs 2 cs2 l
                rw [rd_of (show M2 id = some ⟨l.flatMap Pt.cs, true⟩ by rw [hM2, unfrz_at, if_neg (by omega)]; exact q3)]
                unfold rdB
                rw [if_pos (by rw [hfl]; omega), List.drop_zero, ← hfl, List.take_length]
            obtain ⟨cl, rfl, hcr, hcs⟩ := hcl
            try simp only [hb4, rd_of hb4, go_sem, Int.reduceTMod, Int.reduceTDiv, Int.reduceDiv, Int.reduceMod, Int.reduceAdd, Int.reduceSub, Int.reduceMul, Int.reduceNeg, Int.reducePow, Int.reduceEq, ↓reduceIte, Nat.reduceEqDiff, Nat.reduceAdd, Nat.reduceMul, Nat.reduceLeDiff, Nat.reduceSub, Nat.reduceLT, Int.reduceToNat, Int.reduceLT, Int.reduceLE, reduceCtorEq]
            repeat' ((first | refine FK_split (fun h_ => ?_) (fun h_ => ?_) | refine GK_split (fun h_ => ?_) (fun h_ => ?_) | refine ite_both (fun h_ => ?_) (fun h_ => ?_)) <;> (try simp only [decide_eq_true_eq, decide_eq_false_iff_not, Bool.not_true, Bool.not_false, Bool.not_eq_true', Bool.not_eq_false', Bool.not_eq_eq_eq_not, Decidable.not_not] at h_) <;> (try simp only [hb4, rd_of hb4, h_, go_sem, Int.reduceTMod, Int.reduceTDiv, Int.reduceDiv, Int.reduceMod, Int.reduceAdd, Int.reduceSub, Int.reduceMul, Int.reduceNeg, Int.reducePow, Int.reduceEq, ↓reduceIte, Nat.reduceEqDiff, Nat.reduceAdd, Nat.reduceMul, Nat.reduceLeDiff, Nat.reduceSub, Nat.reduceLT, Int.reduceToNat, Int.reduceLT, Int.reduceLE, reduceCtorEq]))
            refine ⟨_, _, rfl, ⟨fun h => (nobad h).elim, fun _ _ h => (nolong h).elim, fun _ _ _ h => absurd h hwe', fun _ _ _ _ _ => ⟨rfl, n2, cl, rfl, by omega, by omega, upd_same _ _ _, hcr.keep (by omega) (fun id hid => upd_ne _ _ (by omega)), hcs⟩, fun _ _ _ _ h => absurd hpe' h, fun _ _ _ _ h => absurd hpe' h⟩⟩
          · have hpe' : pat ≠ [] := fun e => hpe (by rw [e]; rfl)
            have g2 : ((pat.length : Int) = 0) = False := eq_false (by omega)
            obtain ⟨hP, hph⟩ := right_pat hright hpe'
            have hpo := hP.po
            obtain ⟨x0, y0, y1, y2, y3⟩ := hP.get (k := 0) (Int.le_refl _) (by omega)
            rw [Int.toNat_zero] at y0 y1
            obtain ⟨id, off, cap, b, hpc, hid, hbb, hcc⟩ := RL.int hp2 y0
            simp only [Reg.one.injEq] at hpc
            have hpcb : ∀ j, sid (.one pc) = some j → j < n := fun j hj => hpr.lt hj
            have hidn : id < n := hpcb id (by rw [hpc]; rfl)
            have d1 : ((0 : Int) < (pat.length : Int)) = True := eq_true (by omega)
            have z1 := na_0 (show n + 1 < n1 by omega)
            obtain ⟨M2, hM2⟩ : ∃ M2, M2 = upd M1 n1 (some ⟨[pc, I ph, I 0, I x0, .sc (.slice none 0 0)], true⟩) := ⟨_, rfl⟩
            have hf2 : ∀ id, id < n1 → M2 id = M1 id := fun id hid => by rw [hM2, upd_ne _ _ (by omega)]
            rw [hpc] at hb3
            rw [Nat.add_zero] at hcc
            have hpl3 : lenO (.one (.sl id off pat.length cap 1)) = .some (pat.length : Int) := rfl
            try simp only [r18_0, r18_1, r18_2, r18_3, r18_4, r18_5, r18_6, r18_7, r18_8, r18_9, r18_10, r18_11, r18_12, r18_13, r18_14, r18_15, r18_16, r18_17, r18_18, r18_19, r18_20, r18_21, r18_22, r18_23, r18_25, r18_26, r18_24, r18_27, c18, F18, hlen, g1, hb2, rd_of hb2, hb3, rd_of hb3, hpl2, hpl3, g2, d1, z1, hbb, hcc, Nat.mul_one, Int.toNat_zero, Nat.add_zero, go_sem, Int.reduceTMod, Int.reduceTDiv, Int.reduceDiv, Int.reduceMod, Int.reduceAdd, Int.reduceSub, Int.reduceMul, Int.reduceNeg, Int.reducePow, Int.reduceEq, ↓reduceIte, Nat.reduceEqDiff, Nat.reduceAdd, Nat.reduceMul, Nat.reduceLeDiff, Nat.reduceSub, Nat.reduceLT, Int.reduceToNat, Int.reduceLT, Int.reduceLE, reduceCtorEq]
            repeat' ((first | refine FK_split (fun h_ => ?_) (fun h_ => ?_) | refine GK_split (fun h_ => ?_) (fun h_ => ?_) | refine ite_both (fun h_ => ?_) (fun h_ => ?_)) <;> (try simp only [decide_eq_true_eq, decide_eq_false_iff_not, Bool.not_true, Bool.not_false, Bool.not_eq_true', Bool.not_eq_false', Bool.not_eq_eq_eq_not, Decidable.not_not] at h_) <;> (try simp only [r18_0, r18_1, r18_2, r18_3, r18_4, r18_5, r18_6, r18_7, r18_8, r18_9, r18_10, r18_11, r18_12, r18_13, r18_14, r18_15, r18_16, r18_17, r18_18, r18_19, r18_20, r18_21, r18_22, r18_23, r18_25, r18_26, r18_24, r18_27, c18, F18, hlen, g1, hb2, rd_of hb2, hb3, rd_of hb3, hpl2, hpl3, g2, d1, z1, hbb, hcc, Nat.mul_one, Int.toNat_zero, Nat.add_zero, h_, go_sem, Int.reduceTMod, Int.reduceTDiv, Int.reduceDiv, Int.reduceMod, Int.reduceAdd, Int.reduceSub, Int.reduceMul, Int.reduceNeg, Int.reducePow, Int.reduceEq, ↓reduceIte, Nat.reduceEqDiff, Nat.reduceAdd, Nat.reduceMul, Nat.reduceLeDiff, Nat.reduceSub, Nat.reduceLT, Int.reduceToNat, Int.reduceLT, Int.reduceLE, reduceCtorEq]))
            rw [← hpc] at hb3 ⊢
            rw [← hM2]
            have hp3 : RIn M2 (n1 + 1) (.one pc) pat := hp2.keep (by omega) hf2
            have hw4 : RPt M2 (n1 + 1) x way := hw3.keep (by omega) hf2
            have hwb : ∀ j, sid x = .some j → j < n1 := fun j hj => hw3.lt hj
            refine phase_loop (pid := n1) (tb := n + 1) (wr := x) hP hph hp3 (fun j hj => by have := hpcb j hj; omega) (by omega) (by omega) (by rw [hf2 _ (by omega)]; exact hb3) (by rw [hM2, upd_same, y1]) ?_ ?_ ?_ ?_ (fun s s9 s7 sp sm sn => ?_)
            · simp only [go_sem, Int.reduceTMod, Int.reduceTDiv, Int.reduceDiv, Int.reduceMod, Int.reduceAdd, Int.reduceSub, Int.reduceMul, Int.reduceNeg, Int.reducePow, Int.reduceEq, ↓reduceIte, Nat.reduceEqDiff, Nat.reduceAdd, Nat.reduceMul, Nat.reduceLeDiff, Nat.reduceSub, Nat.reduceLT, Int.reduceToNat, Int.reduceLT, Int.reduceLE, reduceCtorEq]
            · simp only [go_sem, Int.reduceTMod, Int.reduceTDiv, Int.reduceDiv, Int.reduceMod, Int.reduceAdd, Int.reduceSub, Int.reduceMul, Int.reduceNeg, Int.reducePow, Int.reduceEq, ↓reduceIte, Nat.reduceEqDiff, Nat.reduceAdd, Nat.reduceMul, Nat.reduceLeDiff, Nat.reduceSub, Nat.reduceLT, Int.reduceToNat, Int.reduceLT, Int.reduceLE, reduceCtorEq]
            · simp only [go_sem, Int.reduceTMod, Int.reduceTDiv, Int.reduceDiv, Int.reduceMod, Int.reduceAdd, Int.reduceSub, Int.reduceMul, Int.reduceNeg, Int.reducePow, Int.reduceEq, ↓reduceIte, Nat.reduceEqDiff, Nat.reduceAdd, Nat.reduceMul, Nat.reduceLeDiff, Nat.reduceSub, Nat.reduceLT, Int.reduceToNat, Int.reduceLT, Int.reduceLE, reduceCtorEq]
            · simp only [go_sem, Int.reduceTMod, Int.reduceTDiv, Int.reduceDiv, Int.reduceMod, Int.reduceAdd, Int.reduceSub, Int.reduceMul, Int.reduceNeg, Int.reducePow, Int.reduceEq, ↓reduceIte, Nat.reduceEqDiff, Nat.reduceAdd, Nat.reduceMul, Nat.reduceLeDiff, Nat.reduceSub, Nat.reduceLT, Int.reduceToNat, Int.reduceLT, Int.reduceLE, reduceCtorEq]
            · obtain ⟨e, M3, N3⟩ := s
              simp only at s9 s7 sp sm sn
              subst sn
              obtain ⟨hb1', hb2', hb3'⟩ := phS_bd hP hph.1
              have hp4 : RIn M3 (n1 + 1) (.one pc) pat := hp3.keep' (Nat.le_refl _) (fun j hj => sm j (by have := hpcb j hj; omega))
              have hw5 : RPt M3 (n1 + 1) x way := hw4.keep' (Nat.le_refl _) (fun j hj => sm j (by have := hwb j hj; omega))
              have hst : pen0 pat ph way = ((phS pat ph).1, (phS pat ph).2, if (phS pat ph).1 % 2 = 0 then (way.take 1).map (fun p => [p]) else []) := rfl
              have hdl : dashL pat ph way = (dashTo pat way (pen0 pat ph way) (way.length - 1)).map (·.2.2) := rfl
              rw [hst] at hdl
              generalize (phS pat ph).1 = k0 at *
              generalize (phS pat ph).2 = left0 at *
              have vd := v_drawn (pid := n1) (m := frz M3) (n := n1 + 1) (pc := pc) (oc := .sc (.slice none 0 0)) (ph := ph) (k := k0) (left := left0) (o := false) (by rw [frz_at, sp]; rfl) hb1'.1
              have fin : ∀ (ls : List (List Pt)), ls = (if k0 % 2 = 0 then (way.take 1).map (fun p => [p]) else []) → ∀ (M : Mem) (N : Nat), n1 + 1 ≤ N → (∀ j, j < n1 → M j = M3 j) → DPen noA n1 M N pc ph k0 left0 ls → LineI pat 1 k0 left0 ls → ∀ e : Nat → Reg, e 12 = RI 1 → e 9 = .one (.ptr n1 0) → e 7 = x →
                  XK TA (.loop l18_1) ⟨e, M, N⟩ (Kt.blk 3 (Kt.seq (.seq (.reg r18_27) .ret) (Kt.fin [SRes.tmp 4, SRes.tmp 5] fun r' m' n' => ∃ x k, r' = .tup [x, RI k] ∧ DashQ l way c pat ph n x k m' n'))) := by
                intro ls hls M N hN hMf hD hI e q12 q9 q7
                refine lines_loop hP (hp4.keep' (by omega) (fun j hj => hMf j (by have := hpcb j hj; omega))) (fun j hj => by have := hpcb j hj; omega) (hw5.keep' (by omega) (fun j hj => hMf j (hwb j hj))) hwb hwi hlg (by omega) (by omega) hD hI q12 q9 q7 (fun hn s a b => ?_) (fun k' left' ls' s hs a hD' hI' => ?_)
                · rw [hls] at hn
                  rw [hn] at hdl
                  try simp only [a, b, go_sem, Int.reduceTMod, Int.reduceTDiv, Int.reduceDiv, Int.reduceMod, Int.reduceAdd, Int.reduceSub, Int.reduceMul, Int.reduceNeg, Int.reducePow, Int.reduceEq, ↓reduceIte, Nat.reduceEqDiff, Nat.reduceAdd, Nat.reduceMul, Nat.reduceLeDiff, Nat.reduceSub, Nat.reduceLT, Int.reduceToNat, Int.reduceLT, Int.reduceLE, reduceCtorEq]
                  repeat' ((first | refine FK_split (fun h_ => ?_) (fun h_ => ?_) | refine GK_split (fun h_ => ?_) (fun h_ => ?_) | refine ite_both (fun h_ => ?_) (fun h_ => ?_)) <;> (try simp only [decide_eq_true_eq, decide_eq_false_iff_not, Bool.not_true, Bool.not_false, Bool.not_eq_true', Bool.not_eq_false', Bool.not_eq_eq_eq_not, Decidable.not_not] at h_) <;> (try simp only [a, b, h_, go_sem, Int.reduceTMod, Int.reduceTDiv, Int.reduceDiv, Int.reduceMod, Int.reduceAdd, Int.reduceSub, Int.reduceMul, Int.reduceNeg, Int.reducePow, Int.reduceEq, ↓reduceIte, Nat.reduceEqDiff, Nat.reduceAdd, Nat.reduceMul, Nat.reduceLeDiff, Nat.reduceSub, Nat.reduceLT, Int.reduceToNat, Int.reduceLT, Int.reduceLE, reduceCtorEq]))
                  exact ⟨rnil, 36, rfl, ⟨fun h => (nobad h).elim, fun _ _ h => (nolong h).elim, fun _ _ _ h => absurd h hwe', fun _ _ _ _ h => absurd h hpe', fun _ _ _ _ _ _ => ⟨rfl, rfl⟩, fun _ _ _ _ _ ls h => (by rw [hdl] at h; cases h)⟩⟩
                · rw [hls] at hs
                  rw [hs] at hdl
                  obtain ⟨oc, gp, gpn, gO⟩ := hD'
                  obtain ⟨e, M', N'⟩ := s
                  simp only at a gp gpn gO
                  try simp only [r18_0, r18_1, r18_2, r18_3, r18_4, r18_5, r18_6, r18_7, r18_8, r18_9, r18_10, r18_11, r18_12, r18_13, r18_14, r18_15, r18_16, r18_17, r18_18, r18_19, r18_20, r18_21, r18_22, r18_23, r18_25, r18_26, r18_24, r18_27, c18, F18, a, gp, go_sem, Int.reduceTMod, Int.reduceTDiv, Int.reduceDiv, Int.reduceMod, Int.reduceAdd, Int.reduceSub, Int.reduceMul, Int.reduceNeg, Int.reducePow, Int.reduceEq, ↓reduceIte, Nat.reduceEqDiff, Nat.reduceAdd, Nat.reduceMul, Nat.reduceLeDiff, Nat.reduceSub, Nat.reduceLT, Int.reduceToNat, Int.reduceLT, Int.reduceLE, reduceCtorEq]
                  repeat' ((first | refine FK_split (fun h_ => ?_) (fun h_ => ?_) | refine GK_split (fun h_ => ?_) (fun h_ => ?_) | refine ite_both (fun h_ => ?_) (fun h_ => ?_)) <;> (try simp only [decide_eq_true_eq, decide_eq_false_iff_not, Bool.not_true, Bool.not_false, Bool.not_eq_true', Bool.not_eq_false', Bool.not_eq_eq_eq_not, Decidable.not_not] at h_) <;> (try simp only [r18_0, r18_1, r18_2, r18_3, r18_4, r18_5, r18_6, r18_7, r18_8, r18_9, r18_10, r18_11, r18_12, r18_13, r18_14, r18_15, r18_16, r18_17, r18_18, r18_19, r18_20, r18_21, r18_22, r18_23, r18_25, r18_26, r18_24, r18_27, c18, F18, a, gp, h_, go_sem, Int.reduceTMod, Int.reduceTDiv, Int.reduceDiv, Int.reduceMod, Int.reduceAdd, Int.reduceSub, Int.reduceMul, Int.reduceNeg, Int.reducePow, Int.reduceEq, ↓reduceIte, Nat.reduceEqDiff, Nat.reduceAdd, Nat.reduceMul, Nat.reduceLeDiff, Nat.reduceSub, Nat.reduceLT, Int.reduceToNat, Int.reduceLT, Int.reduceLE, reduceCtorEq]))
                  refine ⟨_, _, rfl, ⟨fun h => (nobad h).elim, fun _ _ h => (nolong h).elim, fun _ _ _ h => absurd h hwe', fun _ _ _ _ h => absurd h hpe', fun _ _ _ _ _ h => (by rw [hdl] at h; cases h), fun _ _ _ _ _ ls h => ⟨rfl, oc, n1, rfl, by omega, ?_⟩⟩⟩
                  rw [hdl] at h
                  simp only [Option.map_some, Option.some.injEq] at h
                  rw [← h]
                  exact gO
              cases hd : decide (k0 % 2 = 0)
              · rw [hd] at vd
                have hk2 : ¬ (k0 % 2 = 0) := of_decide_eq_false hd
                try simp only [r18_20, r18_21, r18_22, s9, vd, go_sem, Int.reduceTMod, Int.reduceTDiv, Int.reduceDiv, Int.reduceMod, Int.reduceAdd, Int.reduceSub, Int.reduceMul, Int.reduceNeg, Int.reducePow, Int.reduceEq, ↓reduceIte, Nat.reduceEqDiff, Nat.reduceAdd, Nat.reduceMul, Nat.reduceLeDiff, Nat.reduceSub, Nat.reduceLT, Int.reduceToNat, Int.reduceLT, Int.reduceLE, reduceCtorEq]
                repeat' ((first | refine FK_split (fun h_ => ?_) (fun h_ => ?_) | refine GK_split (fun h_ => ?_) (fun h_ => ?_) | refine ite_both (fun h_ => ?_) (fun h_ => ?_)) <;> (try simp only [decide_eq_true_eq, decide_eq_false_iff_not, Bool.not_true, Bool.not_false, Bool.not_eq_true', Bool.not_eq_false', Bool.not_eq_eq_eq_not, Decidable.not_not] at h_) <;> (try simp only [r18_20, r18_21, r18_22, s9, vd, h_, go_sem, Int.reduceTMod, Int.reduceTDiv, Int.reduceDiv, Int.reduceMod, Int.reduceAdd, Int.reduceSub, Int.reduceMul, Int.reduceNeg, Int.reducePow, Int.reduceEq, ↓reduceIte, Nat.reduceEqDiff, Nat.reduceAdd, Nat.reduceMul, Nat.reduceLeDiff, Nat.reduceSub, Nat.reduceLT, Int.reduceToNat, Int.reduceLT, Int.reduceLE, reduceCtorEq]))
                refine fin [] (by rw [if_neg hk2]) _ _ (Nat.le_refl _) (fun _ _ => rfl) ⟨_, sp, by omega, OSb.nil⟩ ⟨hb1'.1, hb1'.2, by omega, hb3', fun h => absurd h hk2, by simp, fun l hl => by cases hl⟩ _ ?_ ?_ ?_
                · simp only [go_sem, Int.reduceTMod, Int.reduceTDiv, Int.reduceDiv, Int.reduceMod, Int.reduceAdd, Int.reduceSub, Int.reduceMul, Int.reduceNeg, Int.reducePow, Int.reduceEq, ↓reduceIte, Nat.reduceEqDiff, Nat.reduceAdd, Nat.reduceMul, Nat.reduceLeDiff, Nat.reduceSub, Nat.reduceLT, Int.reduceToNat, Int.reduceLT, Int.reduceLE, reduceCtorEq]
                · simp only [s9, go_sem, Int.reduceTMod, Int.reduceTDiv, Int.reduceDiv, Int.reduceMod, Int.reduceAdd, Int.reduceSub, Int.reduceMul, Int.reduceNeg, Int.reducePow, Int.reduceEq, ↓reduceIte, Nat.reduceEqDiff, Nat.reduceAdd, Nat.reduceMul, Nat.reduceLeDiff, Nat.reduceSub, Nat.reduceLT, Int.reduceToNat, Int.reduceLT, Int.reduceLE, reduceCtorEq]
                · simp only [s7, go_sem, Int.reduceTMod, Int.reduceTDiv, Int.reduceDiv, Int.reduceMod, Int.reduceAdd, Int.reduceSub, Int.reduceMul, Int.reduceNeg, Int.reducePow, Int.reduceEq, ↓reduceIte, Nat.reduceEqDiff, Nat.reduceAdd, Nat.reduceMul, Nat.reduceLeDiff, Nat.reduceSub, Nat.reduceLT, Int.reduceToNat, Int.reduceLT, Int.reduceLE, reduceCtorEq]
              · rw [hd] at vd
                have hk2 : k0 % 2 = 0 := of_decide_eq_true hd
                have hq0 : way[0]? = .some (way[0]'(by omega)) := List.getElem?_eq_getElem (by omega)
                obtain ⟨wid, woff, wcap, hwr, hwid, hwrd⟩ := hw5.at cs2 hq0
                rw [Nat.zero_mul, Nat.add_zero] at hwrd
                have ht1 : (way.take 1).map (fun p => [p]) = [[way[0]'(by omega)]] := by
                  match way, hwe with
                  | p :: t, _ => rfl
                generalize (way[0]'(by omega)) = p0 at *
                have d3 : ((0 : Int) < (way.length : Int)) = True := eq_true (by omega)
                have s7' := s7
                rw [hwr] at s7'
                try simp only [r18_20, r18_21, s9, s7', vd, sp, hwrd, lenO, d3, Int.toNat_zero, Nat.zero_mul, Nat.add_zero, go_sem, Int.reduceTMod, Int.reduceTDiv, Int.reduceDiv, Int.reduceMod, Int.reduceAdd, Int.reduceSub, Int.reduceMul, Int.reduceNeg, Int.reducePow, Int.reduceEq, ↓reduceIte, Nat.reduceEqDiff, Nat.reduceAdd, Nat.reduceMul, Nat.reduceLeDiff, Nat.reduceSub, Nat.reduceLT, Int.reduceToNat, Int.reduceLT, Int.reduceLE, reduceCtorEq]
                repeat' ((first | refine FK_split (fun h_ => ?_) (fun h_ => ?_) | refine GK_split (fun h_ => ?_) (fun h_ => ?_) | refine ite_both (fun h_ => ?_) (fun h_ => ?_)) <;> (try simp only [decide_eq_true_eq, decide_eq_false_iff_not, Bool.not_true, Bool.not_false, Bool.not_eq_true', Bool.not_eq_false', Bool.not_eq_eq_eq_not, Decidable.not_not] at h_) <;> (try simp only [r18_20, r18_21, s9, s7', vd, sp, hwrd, lenO, d3, Int.toNat_zero, Nat.zero_mul, Nat.add_zero, h_, go_sem, Int.reduceTMod, Int.reduceTDiv, Int.reduceDiv, Int.reduceMod, Int.reduceAdd, Int.reduceSub, Int.reduceMul, Int.reduceNeg, Int.reducePow, Int.reduceEq, ↓reduceIte, Nat.reduceEqDiff, Nat.reduceAdd, Nat.reduceMul, Nat.reduceLeDiff, Nat.reduceSub, Nat.reduceLT, Int.reduceToNat, Int.reduceLT, Int.reduceLE, reduceCtorEq]))
                refine K_piece (p := p0) (A := noA) (pid := n1) OSb.nil (by omega) (fun j h => h.elim) (by simp) ?_
                intro cc m' hO2 hf2 hsc
                have gp2 : m' n1 = some ⟨[pc, I ph, I k0, I left0, .sc (.slice none 0 0)], true⟩ := by rw [hf2 n1 (by omega) (Or.inl (Nat.le_refl _))]; exact sp
                try simp only [r18_22, s9, gp2, go_sem, Int.reduceTMod, Int.reduceTDiv, Int.reduceDiv, Int.reduceMod, Int.reduceAdd, Int.reduceSub, Int.reduceMul, Int.reduceNeg, Int.reducePow, Int.reduceEq, ↓reduceIte, Nat.reduceEqDiff, Nat.reduceAdd, Nat.reduceMul, Nat.reduceLeDiff, Nat.reduceSub, Nat.reduceLT, Int.reduceToNat, Int.reduceLT, Int.reduceLE, reduceCtorEq]
                repeat' ((first | refine FK_split (fun h_ => ?_) (fun h_ => ?_) | refine GK_split (fun h_ => ?_) (fun h_ => ?_) | refine ite_both (fun h_ => ?_) (fun h_ => ?_)) <;> (try simp only [decide_eq_true_eq, decide_eq_false_iff_not, Bool.not_true, Bool.not_false, Bool.not_eq_true', Bool.not_eq_false', Bool.not_eq_eq_eq_not, Decidable.not_not] at h_) <;> (try simp only [r18_22, s9, gp2, h_, go_sem, Int.reduceTMod, Int.reduceTDiv, Int.reduceDiv, Int.reduceMod, Int.reduceAdd, Int.reduceSub, Int.reduceMul, Int.reduceNeg, Int.reducePow, Int.reduceEq, ↓reduceIte, Nat.reduceEqDiff, Nat.reduceAdd, Nat.reduceMul, Nat.reduceLeDiff, Nat.reduceSub, Nat.reduceLT, Int.reduceToNat, Int.reduceLT, Int.reduceLE, reduceCtorEq]))
                refine fin [[p0]] (by rw [if_pos hk2, ht1]) _ _ (by omega) (fun j hj => ?_) ⟨cc, upd_same _ _ _, by omega, hO2.keep (Nat.le_refl _) (fun j q1 q2 q3 => upd_ne _ _ (by omega)) (fun j _ h => h)⟩ ⟨hb1'.1, hb1'.2, by omega, hb3', fun _ => by simp, by simp, fun l hl => ?_⟩ _ ?_ ?_ ?_
                · rw [upd_ne _ _ (by omega), hf2 j (by omega) (Or.inl (by omega))]
                · simp at hl
                  subst hl
                  simp only [List.length_singleton]
                  omega
                · simp only [go_sem, Int.reduceTMod, Int.reduceTDiv, Int.reduceDiv, Int.reduceMod, Int.reduceAdd, Int.reduceSub, Int.reduceMul, Int.reduceNeg, Int.reducePow, Int.reduceEq, ↓reduceIte, Nat.reduceEqDiff, Nat.reduceAdd, Nat.reduceMul, Nat.reduceLeDiff, Nat.reduceSub, Nat.reduceLT, Int.reduceToNat, Int.reduceLT, Int.reduceLE, reduceCtorEq]
                · simp only [s9, go_sem, Int.reduceTMod, Int.reduceTDiv, Int.reduceDiv, Int.reduceMod, Int.reduceAdd, Int.reduceSub, Int.reduceMul, Int.reduceNeg, Int.reducePow, Int.reduceEq, ↓reduceIte, Nat.reduceEqDiff, Nat.reduceAdd, Nat.reduceMul, Nat.reduceLeDiff, Nat.reduceSub, Nat.reduceLT, Int.reduceToNat, Int.reduceLT, Int.reduceLE, reduceCtorEq]
                · simp only [s7, go_sem, Int.reduceTMod, Int.reduceTDiv, Int.reduceDiv, Int.reduceMod, Int.reduceAdd, Int.reduceSub, Int.reduceMul, Int.reduceNeg, Int.reducePow, Int.reduceEq, ↓reduceIte, Nat.reduceEqDiff, Nat.reduceAdd, Nat.reduceMul, Nat.reduceLeDiff, Nat.reduceSub, Nat.reduceLT, Int.reduceToNat, Int.reduceLT, Int.reduceLE, reduceCtorEq]
      · obtain ⟨rfl, rfl⟩ := hq2 hi hlg
        try simp only [r18_0, r18_1, r18_2, r18_3, r18_4, r18_5, r18_6, r18_7, r18_8, r18_9, r18_10, r18_11, r18_12, r18_13, r18_14, r18_15, r18_16, r18_17, r18_18, r18_19, r18_20, r18_21, r18_22, r18_23, r18_25, r18_26, r18_24, r18_27, c18, F18, go_sem, Int.reduceTMod, Int.reduceTDiv, Int.reduceDiv, Int.reduceMod, Int.reduceAdd, Int.reduceSub, Int.reduceMul, Int.reduceNeg, Int.reducePow, Int.reduceEq, ↓reduceIte, Nat.reduceEqDiff, Nat.reduceAdd, Nat.reduceMul, Nat.reduceLeDiff, Nat.reduceSub, Nat.reduceLT, Int.reduceToNat, Int.reduceLT, Int.reduceLE, reduceCtorEq]
        repeat' ((first | refine FK_split (fun h_ => ?_) (fun h_ => ?_) | refine GK_split (fun h_ => ?_) (fun h_ => ?_) | refine ite_both (fun h_ => ?_) (fun h_ => ?_)) <;> (try simp only [decide_eq_true_eq, decide_eq_false_iff_not, Bool.not_true, Bool.not_false, Bool.not_eq_true', Bool.not_eq_false', Bool.not_eq_eq_eq_not, Decidable.not_not] at h_) <;> (try simp only [r18_0, r18_1, r18_2, r18_3, r18_4, r18_5, r18_6, r18_7, r18_8, r18_9, r18_10, r18_11, r18_12, r18_13, r18_14, r18_15, r18_16, r18_17, r18_18, r18_19, r18_20, r18_21, r18_22, r18_23, r18_25, r18_26, r18_24, r18_27, c18, F18, h_, go_sem, Int.reduceTMod, Int.reduceTDiv, Int.reduceDiv, Int.reduceMod, Int.reduceAdd, Int.reduceSub, Int.reduceMul, Int.reduceNeg, Int.reducePow, Int.reduceEq, ↓reduceIte, Nat.reduceEqDiff, Nat.reduceAdd, Nat.reduceMul, Nat.reduceLeDiff, Nat.reduceSub, Nat.reduceLT, Int.reduceToNat, Int.reduceLT, Int.reduceLE, reduceCtorEq]))
        exact ⟨rnil, 10, rfl, ⟨fun h => (by rcases h with h | h <;> first | (rw [hright] at h; cases h) | (rw [hi] at h; cases h)), fun _ _ _ => ⟨rfl, rfl⟩, fun _ _ h => (by rw [hlg] at h; cases h), fun _ _ h => (by rw [hlg] at h; cases h), fun _ _ h => (by rw [hlg] at h; cases h), fun _ _ h => (by rw [hlg] at h; cases h)⟩⟩

/- What holds of all pieces. Plain. Conditions: those that each theorem names. -/
open Go Go.Proofs
set_option linter.unusedVariables false

section
variable {P : Pt → Prop} {J : List (List Pt) → Prop} (j1 : ∀ ls p, J ls → P p → J (addL ls p)) (j2 : ∀ ls p, J ls → P p → J (ls ++ [[p]])) {pat : List Int} (hP : PatI pat)
include j1 j2
theorem nextL_J {k k' : Int} {ls : List (List Pt)} {p : Pt} (h : J ls) (hp : P p) : J (nextL k k' ls p) := by
  unfold nextL
  have h1 : J (if k % 2 = 0 then addL ls p else ls) := by
    split
    · exact j1 _ _ h hp
    · exact h
  generalize (if k % 2 = 0 then addL ls p else ls) = l1 at *
  split
  · exact j2 _ _ h1 hp
  · rw [List.append_nil]; exact h1
include hP
theorem lineGo_J {a b : Pt} {N C : Int} (hC : 1 ≤ C) (hpl : ∀ t, 0 ≤ t → t ≤ N → 0 < N → P (placeP a.x a.y b.x b.y t N)) : ∀ (f : Nat) (t k left : Int) (ls : List (List Pt)), LineI pat C k left ls → 0 ≤ t → t ≤ N → meas N t left < f → J ls → ∀ r, lineGo pat a b N f t k left ls = some r → J r.2.2.2 ∧ LineI pat C r.2.1 r.2.2.1 r.2.2.2 ∧ r.1 ≤ N ∧ ¬ r.2.2.1 < N - r.1
  | 0, _, _, _, _, _, _, _, hm, _, _, _ => by omega
  | f + 1, t, k, left, ls, hI, ht, htN, hm, hJ, r, h => by
    rw [lineGo] at h
    split at h
    · rename_i g
      split at h
      · cases h
      · rename_i g2
        have hl0 := hI.l0
        obtain ⟨x, _, x1, x2, x3⟩ := hP.at k
        have hn := hI.next hP (placeP a.x a.y b.x b.y (t + left) N) hC g2
        rw [x1] at h hn
        refine lineGo_J hC hpl f _ _ _ _ hn (by omega) (by omega) ?_ (nextL_J j1 j2 hJ (hpl _ (by omega) (by omega) (by omega))) r h
        unfold meas at hm ⊢
        split <;> split at hm <;> omega
    · rename_i g
      cases h
      exact ⟨hJ, hI, htN, g⟩
theorem lineS_J {a b : Pt} {C k left : Int} {ls : List (List Pt)} (hC : 1 ≤ C) (hN : 0 ≤ lenQ a b) (hpl : ∀ t, 0 ≤ t → t ≤ lenQ a b → 0 < lenQ a b → P (placeP a.x a.y b.x b.y t (lenQ a b))) (hb : P b) (hI : LineI pat C k left ls) (hJ : J ls) {k' left' : Int} {ls' : List (List Pt)}
    (h : lineS pat a b k left ls = some (k', left', ls')) : J ls' ∧ LineI pat (C + 1) k' left' ls' := by
  unfold lineS at h
  cases hr : lineGo pat a b (lenQ a b) (2 * (lenQ a b).toNat + 2) 0 k left ls with
  | none => rw [hr] at h; cases h
  | some r =>
    obtain ⟨t1, k1, left1, ls1⟩ := r
    obtain ⟨q1, q2, q3, q4⟩ := lineGo_J j1 j2 hP hC hpl _ 0 k left ls hI (Int.le_refl _) hN (by unfold meas; split <;> omega) hJ _ hr
    simp only at q1 q2 q3 q4
    rw [hr] at h
    simp only [lineE, Option.some.injEq, Prod.mk.injEq] at h
    obtain ⟨rfl, rfl, rfl⟩ := h
    refine ⟨?_, q2.point b (by omega) (by omega)⟩
    split
    · exact j1 _ _ q1 hb
    · exact q1
theorem dashTo_J {way : List Pt} {k left : Int} {ls : List (List Pt)} (hI : LineI pat 1 k left ls) (hJ : J ls)
    (hw : ∀ i a b, way[i]? = some a → way[i + 1]? = some b → 0 ≤ lenQ a b ∧ (∀ t, 0 ≤ t → t ≤ lenQ a b → 0 < lenQ a b → P (placeP a.x a.y b.x b.y t (lenQ a b))) ∧ P b) :
    ∀ (i : Nat) (k' left' : Int) (ls' : List (List Pt)), dashTo pat way (k, left, ls) i = some (k', left', ls') → J ls' ∧ LineI pat (1 + i) k' left' ls'
  | 0, k', left', ls', h => by
    rw [dashTo] at h
    cases h
    exact ⟨hJ, hI⟩
  | i + 1, k', left', ls', h => by
    rw [dashTo] at h
    cases hr : dashTo pat way (k, left, ls) i with
    | none => rw [hr] at h; cases h
    | some st =>
      obtain ⟨k1, left1, ls1⟩ := st
      rw [hr] at h
      obtain ⟨q1, q2⟩ := dashTo_J hI hJ hw i k1 left1 ls1 hr
      have e : (1 : Int) + ((i + 1 : Nat) : Int) = 1 + (i : Int) + 1 := by omega
      rw [e]
      simp only at h
      split at h
      · rename_i a b ha hb
        obtain ⟨w1, w2, w3⟩ := hw i a b ha hb
        exact lineS_J j1 j2 hP (by omega) w1 w2 w3 q2 q1 h
      · cases h
        exact ⟨q1, ⟨q2.k0, q2.k1, q2.l0, q2.l1, q2.ne, q2.le, fun l hl => by have := q2.bd l hl; omega⟩⟩
theorem dashL_J {way : List Pt} {ph : Int} (hph : 0 ≤ ph) (h0 : J (pen0 pat ph way).2.2) (hwe : way ≠ [])
    (hw : ∀ i a b, way[i]? = some a → way[i + 1]? = some b → 0 ≤ lenQ a b ∧ (∀ t, 0 ≤ t → t ≤ lenQ a b → 0 < lenQ a b → P (placeP a.x a.y b.x b.y t (lenQ a b))) ∧ P b) {ls : List (List Pt)} (h : dashL pat ph way = some ls) : J ls ∧ ls.length ≤ 4096 ∧ ∀ l ∈ ls, l.length < 4294967296 - 1 ∨ 1000000 < way.length := by
  obtain ⟨b1, b2, b3⟩ := phS_bd hP hph
  unfold dashL at h
  cases hr : dashTo pat way (pen0 pat ph way) (way.length - 1) with
  | none => rw [hr] at h; cases h
  | some st =>
    obtain ⟨k1, left1, ls1⟩ := st
    rw [hr] at h
    simp only [Option.map_some, Option.some.injEq] at h
    subst h
    have hI : LineI pat 1 (pen0 pat ph way).1 (pen0 pat ph way).2.1 (pen0 pat ph way).2.2 := by
      unfold pen0
      simp only
      refine ⟨b1.1, b1.2, by omega, b3, fun he => ?_, ?_, fun l hl => ?_⟩
      · rw [if_pos he]
        match way, hwe with
        | p :: t, _ => simp
      · split
        · match way, hwe with
          | p :: t, _ => simp
        · simp
      · split at hl
        · rename_i he
          rw [if_pos he]
          match way, hwe with
          | p :: t, _ =>
            simp at hl
            subst hl
            simp
            omega
        · cases hl
    obtain ⟨q1, q2⟩ := dashTo_J j1 j2 hP hI h0 hw _ k1 left1 ls1 hr
    refine ⟨q1, q2.le, fun l hl => ?_⟩
    by_cases g : 1000000 < way.length
    · exact Or.inr g
    · have := q2.bd l hl
      have := q2.le
      exact Or.inl (by omega)
end
/-- Pieces with points, all of them right. -/
def GoodL (P : Pt → Prop) (ls : List (List Pt)) : Prop := ∀ l ∈ ls, l ≠ [] ∧ ∀ p ∈ l, P p
theorem good_add {P : Pt → Prop} (ls : List (List Pt)) (p : Pt) (h : GoodL P ls) (hp : P p) : GoodL P (addL ls p) := fun l hl => by
  obtain ⟨l0, m1, m2⟩ := addL_mem ls p l hl
  obtain ⟨g1, g2⟩ := h l0 m1
  rcases m2 with rfl | rfl
  · exact ⟨g1, g2⟩
  · refine ⟨by simp, fun q hq => ?_⟩
    rw [List.mem_append, List.mem_singleton] at hq
    rcases hq with hq | rfl
    · exact g2 q hq
    · exact hp
theorem good_new {P : Pt → Prop} (ls : List (List Pt)) (p : Pt) (h : GoodL P ls) (hp : P p) : GoodL P (ls ++ [[p]]) := fun l hl => by
  rw [List.mem_append, List.mem_singleton] at hl
  rcases hl with hl | rfl
  · exact h l hl
  · exact ⟨by simp, fun q hq => by rw [List.mem_singleton] at hq; rw [hq]; exact hp⟩
/-- The first piece begins there. -/
def HdL (p0 : Pt) (ls : List (List Pt)) : Prop := ∃ t r, ls = (p0 :: t) :: r
theorem hd_add {p0 : Pt} (ls : List (List Pt)) (p : Pt) (h : HdL p0 ls) (_ : True) : HdL p0 (addL ls p) := by
  obtain ⟨t, r, rfl⟩ := h
  cases r with
  | nil => exact ⟨t ++ [p], [], rfl⟩
  | cons y r => exact ⟨t, addL (y :: r) p, rfl⟩
theorem hd_new {p0 : Pt} (ls : List (List Pt)) (p : Pt) (h : HdL p0 ls) (_ : True) : HdL p0 (ls ++ [[p]]) := by
  obtain ⟨t, r, rfl⟩ := h
  exact ⟨t, r ++ [[p]], rfl⟩
theorem pln_memD {l : List Pt} : ∀ {i : Nat} {a : Pt}, a ∈ pln l i → a ∈ l
  | 0, a, h => by cases h
  | i + 1, a, h => by
    rw [pln] at h
    split at h
    · rw [List.mem_append] at h
      rcases h with h | h
      · exact pln_memD h
      · cases hp : l[i]? with
        | none => rw [hp] at h; cases h
        | some p =>
          rw [hp] at h
          simp at h
          subst h
          exact List.mem_of_getElem? hp
    · exact pln_memD h
theorem way_mem {l : List Pt} {c : Bool} {a : Pt} (h : a ∈ wayL l c) : a ∈ l := by
  unfold wayL at h
  split at h
  · rw [List.mem_append] at h
    rcases h with h | h
    · exact pln_memD h
    · exact pln_memD (List.mem_of_mem_take h)
  · exact pln_memD h
theorem pln_head {p : Pt} {l : List Pt} : ∀ i, i ≤ l.length → ∃ t, pln (p :: l) (i + 1) = p :: t
  | 0, _ => ⟨[], by rw [pln]; simp [pln]⟩
  | i + 1, hi => by
    obtain ⟨t, ht⟩ := pln_head (p := p) (l := l) i (by omega)
    rw [pln]
    split
    · exact ⟨t ++ ((p :: l)[i + 1]?).toList, by rw [ht]; rfl⟩
    · exact ⟨t, ht⟩
theorem way_head {p : Pt} {l : List Pt} {c : Bool} : ∃ t, wayL (p :: l) c = p :: t := by
  obtain ⟨t, ht⟩ := pln_head (p := p) (l := l) l.length (Nat.le_refl _)
  unfold wayL
  rw [List.length_cons, ht]
  split
  · exact ⟨t ++ (p :: t).take 1, rfl⟩
  · exact ⟨t, rfl⟩
/-- A place on a line lies where its ends lie. -/
theorem place_box {a b : Pt} {t x0 y0 x1 y1 : Int} (hlg : longB (b.x - a.x) (b.y - a.y) = false) (ht : 0 ≤ t) (htn : t ≤ lenQ a b) (hn : 0 < lenQ a b) (ha : (x0 ≤ a.x ∧ a.x < x1) ∧ y0 ≤ a.y ∧ a.y < y1) (hb : (x0 ≤ b.x ∧ b.x < x1) ∧ y0 ≤ b.y ∧ b.y < y1) :
    (x0 ≤ (placeP a.x a.y b.x b.y t (lenQ a b)).x ∧ (placeP a.x a.y b.x b.y t (lenQ a b)).x < x1) ∧ y0 ≤ (placeP a.x a.y b.x b.y t (lenQ a b)).y ∧ (placeP a.x a.y b.x b.y t (lenQ a b)).y < y1 := by
  have hN := lenQ_bd hlg
  rw [long_iff] at hlg
  obtain ⟨_, u1, u2⟩ := at_bd ht htn hn hN.2 hlg.1
  obtain ⟨_, v1, v2⟩ := at_bd ht htn hn hN.2 hlg.2
  unfold placeP
  simp only
  rcases Int.le_total 0 (b.x - a.x) with g | g <;> rcases Int.le_total 0 (b.y - a.y) with g' | g'
  · have := u1 g; have := v1 g'; omega
  · have := u1 g; have := v2 g'; omega
  · have := u2 g; have := v1 g'; omega
  · have := u2 g; have := v2 g'; omega

/- The pieces of a way by whole distances; a pen leaves the same. Plain. Conditions: those that each theorem names. -/
open Go Go.Proofs
set_option linter.unusedVariables false

/-- Where the lengths of a pattern begin. -/
def Bk (pat : List Int) (ph : Int) : Nat → Int
  | 0 => -ph
  | k + 1 => Bk pat ph k + pat.getD (k % pat.length) 0
/-- How far the points of a way lie from its beginning. -/
noncomputable def Dw (way : List Pt) : Nat → Int
  | 0 => 0
  | i + 1 => Dw way i + (match way[i]?, way[i + 1]? with | some a, some b => lenQ a b | _, _ => 0)
noncomputable def allD (way : List Pt) : Int := Dw way (way.length - 1)
/-- The line that a distance lies in. -/
noncomputable def atI (way : List Pt) (d : Int) : Nat → Nat → Nat
  | 0, i => i
  | f + 1, i => if Dw way (i + 1) ≤ d then atI way d f (i + 1) else i
noncomputable def atP (way : List Pt) (d : Int) (i : Nat) : Pt := match way[i]?, way[i + 1]? with
  | some a, some b => placeP a.x a.y b.x b.y (d - Dw way i) (Dw way (i + 1) - Dw way i)
  | _, _ => ⟨0, 0⟩
noncomputable def atR (way : List Pt) (d : Int) : Pt := atP way d (atI way d way.length 0)
/-- The points of a way inside of a length, of those below i. -/
noncomputable def midR (way : List Pt) (b e : Int) : Nat → List Pt
  | 0 => []
  | i + 1 => midR way b e i ++ (if 1 ≤ i ∧ (b < Dw way i ∧ Dw way i ≤ e) ∧ 0 < Dw way i then (way[i]?).toList else [])
noncomputable def begR (way : List Pt) (b : Int) : List Pt := if b ≤ 0 then way.take 1 else [atR way b]
noncomputable def pieceR (way : List Pt) (b e : Int) : List Pt := begR way b ++ midR way b e way.length ++ (if e < allD way then [atR way e] else [])
noncomputable def refGo (pat : List Int) (way : List Pt) : Nat → Nat → Int → List (List Pt) → Option (List (List Pt))
  | 0, _, _, out => some out
  | f + 1, k, b, out =>
    if b < allD way then
      (if k % 2 = 0 ∧ 0 < b + pat.getD (k % pat.length) 0 then
        (if 4096 < (out ++ [pieceR way b (b + pat.getD (k % pat.length) 0)]).length then none
         else refGo pat way f (k + 1) (b + pat.getD (k % pat.length) 0) (out ++ [pieceR way b (b + pat.getD (k % pat.length) 0)]))
       else refGo pat way f (k + 1) (b + pat.getD (k % pat.length) 0) out)
    else some out
/-- A way whose lines have lengths. -/
structure WayI (way : List Pt) : Prop where
  two : 2 ≤ way.length
  len : ∀ i a b, way[i]? = some a → way[i + 1]? = some b → 1 ≤ lenQ a b
theorem WayI.step {way : List Pt} (h : WayI way) {i : Nat} (hi : i + 1 < way.length) : ∃ a b, way[i]? = some a ∧ way[i + 1]? = some b ∧ Dw way (i + 1) = Dw way i + lenQ a b ∧ 1 ≤ lenQ a b := by
  have h1 : way[i]? = some (way[i]'(by omega)) := List.getElem?_eq_getElem (by omega)
  have h2 : way[i + 1]? = some (way[i + 1]'hi) := List.getElem?_eq_getElem hi
  exact ⟨_, _, h1, h2, by rw [Dw, h1, h2], h.len i _ _ h1 h2⟩
theorem WayI.lt {way : List Pt} (h : WayI way) {i : Nat} : ∀ {j : Nat}, i < j → j < way.length → Dw way i < Dw way j
  | 0, hij, _ => by omega
  | j + 1, hij, hj => by
    obtain ⟨a, b, _, _, e, l⟩ := h.step hj
    by_cases he : i = j
    · subst he; omega
    · have := h.lt (i := i) (j := j) (by omega) (by omega)
      omega
theorem WayI.le {way : List Pt} (h : WayI way) {i j : Nat} (hij : i ≤ j) (hj : j < way.length) : Dw way i ≤ Dw way j := by
  by_cases he : i = j
  · subst he; exact Int.le_refl _
  · exact Int.le_of_lt (h.lt (by omega) hj)
theorem atI_eq {way : List Pt} (h : WayI way) {d : Int} {i : Nat} (hi : i + 1 < way.length) (h1 : Dw way i ≤ d) (h2 : d < Dw way (i + 1)) : ∀ (f j : Nat), j ≤ i → i < j + f → atI way d f j = i
  | 0, j, hj, hf => by omega
  | f + 1, j, hj, hf => by
    rw [atI]
    by_cases he : j = i
    · subst he
      rw [if_neg (by omega)]
    · rw [if_pos (by have := h.le (i := j + 1) (j := i) (by omega) (by omega); omega)]
      exact atI_eq h hi h1 h2 f (j + 1) (by omega) (by omega)
theorem atR_eq {way : List Pt} (h : WayI way) {i : Nat} {a b : Pt} {t : Int} (ha : way[i]? = some a) (hb : way[i + 1]? = some b) (h0 : 0 ≤ t) (h1 : t < lenQ a b) : atR way (Dw way i + t) = placeP a.x a.y b.x b.y t (lenQ a b) := by
  have hlt : i + 1 < way.length := (List.getElem?_eq_some_iff.1 hb).1
  have e : Dw way (i + 1) = Dw way i + lenQ a b := by rw [Dw, ha, hb]
  unfold atR
  rw [atI_eq h hlt (by omega) (by omega) way.length 0 (by omega) (by omega)]
  unfold atP
  rw [ha, hb, e]
  simp only
  congr 1 <;> omega
theorem midR_more {way : List Pt} (h : WayI way) {b e : Int} {i : Nat} (hi : i + 1 < way.length) (he : e < Dw way (i + 1)) : ∀ j, i + 1 ≤ j → j ≤ way.length → midR way b e j = midR way b e (i + 1) := by
  intro j hj hl
  induction j with
  | zero => omega
  | succ j ih =>
    by_cases e1 : j = i
    · subst e1; rfl
    · rw [midR, ih (by omega) (by omega), if_neg, List.append_nil]
      have := h.le (i := i + 1) (j := j) (by omega) (by omega)
      omega
theorem midR_ends {way : List Pt} (h : WayI way) {b e e' : Int} {i : Nat} (hi : i < way.length) (h1 : Dw way i ≤ e) (h2 : Dw way i ≤ e') : ∀ j, j ≤ i + 1 → midR way b e j = midR way b e' j
  | 0, _ => rfl
  | j + 1, hj => by
    have := h.le (i := j) (j := i) (by omega) hi
    rw [midR, midR, midR_ends h hi h1 h2 j (by omega)]
    congr 1
    by_cases g : 1 ≤ j ∧ (b < Dw way j ∧ Dw way j ≤ e) ∧ 0 < Dw way j
    · rw [if_pos g, if_pos (by omega)]
    · rw [if_neg g, if_neg (by omega)]
theorem midR_none {way : List Pt} (h : WayI way) {b e : Int} {i : Nat} (hi : i < way.length) (h1 : Dw way i ≤ b) : ∀ j, j ≤ i + 1 → midR way b e j = []
  | 0, _ => rfl
  | j + 1, hj => by
    have := h.le (i := j) (j := i) (by omega) hi
    rw [midR, midR_none h hi h1 j (by omega), if_neg (by omega)]
    rfl

/- A pen along a line leaves what whole distances tell. Plain. Conditions: those that each theorem names. -/
open Go Go.Proofs
set_option linter.unusedVariables false

section
variable {pat : List Int} (hP : PatI pat) {way : List Pt} (hW : WayI way) {ph : Int}
/-- The pen, and what is left to tell. -/
structure PenAt (pat : List Int) (way : List Pt) (ph : Int) (R : Option (List (List Pt))) (i : Nat) (t k left : Int) (ls : List (List Pt)) (kk f : Nat) (done : List (List Pt)) : Prop where
  kE : k = ((kk % pat.length : Nat) : Int)
  dE : Dw way i + t + left = Bk pat ph (kk + 1)
  l0 : 0 ≤ left
  t0 : 0 ≤ t
  bp : 0 < Bk pat ph (kk + 1)
  bt : Bk pat ph kk ≤ Dw way i + t
  lE : ls = done ++ (if kk % 2 = 0 then [begR way (Bk pat ph kk) ++ midR way (Bk pat ph kk) (Bk pat ph (kk + 1)) (i + 1)] else [])
  rE : refGo pat way f kk (Bk pat ph kk) done = R
  fE : (allD way - Bk pat ph kk).toNat < f
  le : ls.length ≤ 4096
include hP
theorem par_k (kk : Nat) : (((kk % pat.length : Nat) : Int) % 2 = 0) = (kk % 2 = 0) := by
  have hev := hP.ev
  have hpo := hP.po
  apply propext
  have h := mod_parN (k := kk) (d := pat.length) hev hpo
  omega
where mod_parN {k d : Nat} (hd : d % 2 = 0) (h0 : 0 < d) : (k % d) % 2 = k % 2 := Nat.mod_mod_of_dvd k (Nat.dvd_of_mod_eq_zero hd)
theorem nx_k (kk : Nat) : (((kk % pat.length : Nat) : Int) + 1) % (pat.length : Int) = (((kk + 1) % pat.length : Nat) : Int) := by
  have hpo := hP.po
  rw [Int.natCast_emod, Int.emod_add_emod, Int.natCast_emod]
  rfl
theorem Bk_le (ph : Int) (kk : Nat) : Bk pat ph kk + 1 ≤ Bk pat ph (kk + 1) := by
  have hpo := hP.po
  have hlt : kk % pat.length < pat.length := Nat.mod_lt _ hpo
  have e : pat.getD (kk % pat.length) 0 = pat[kk % pat.length] := by simp [List.getD, List.getElem?_eq_getElem hlt]
  have := hP.bd _ (List.getElem_mem hlt)
  rw [Bk, e]
  omega
include hW
theorem lineGo_ref {R : Option (List (List Pt))} {i : Nat} {a b : Pt} (ha : way[i]? = some a) (hb : way[i + 1]? = some b) : ∀ (f0 : Nat) (t k left : Int) (ls : List (List Pt)), (∃ kk f done, PenAt pat way ph R i t k left ls kk f done) → t < lenQ a b → meas (lenQ a b) t left < f0 →
    (lineGo pat a b (lenQ a b) f0 t k left ls = none → R = none) ∧ ∀ t' k' left' ls', lineGo pat a b (lenQ a b) f0 t k left ls = some (t', k', left', ls') → (∃ kk f done, PenAt pat way ph R i t' k' left' ls' kk f done) ∧ t' < lenQ a b ∧ ¬ left' < lenQ a b - t'
  | 0, _, _, _, _, _, _, hm => by omega
  | f0 + 1, t, k, left, ls, ⟨kk, f, done, h⟩, htN, hm => by
    have hlt : i + 1 < way.length := (List.getElem?_eq_some_iff.1 hb).1
    have eD : Dw way (i + 1) = Dw way i + lenQ a b := by rw [Dw, ha, hb]
    have hall : Dw way (i + 1) ≤ allD way := hW.le (by omega) (by omega)
    rw [lineGo]
    by_cases g : left < lenQ a b - t
    · rw [if_pos g]
      have hl0 := h.l0
      have ht0 := h.t0
      have hdE := h.dE
      have hbt := h.bt
      have hbp := h.bp
      have hB1 := Bk_le hP ph kk
      have hB2 := Bk_le hP ph (kk + 1)
      have hpp : atR way (Bk pat ph (kk + 1)) = placeP a.x a.y b.x b.y (t + left) (lenQ a b) := by
        rw [← hdE, show Dw way i + t + left = Dw way i + (t + left) by omega]
        exact atR_eq hW ha hb (by omega) (by omega)
      have hk : (k + 1) % (pat.length : Int) = (((kk + 1) % pat.length : Nat) : Int) := by rw [h.kE]; exact nx_k hP kk
      have hx : pat.getD ((k + 1) % (pat.length : Int)).toNat 0 = pat.getD ((kk + 1) % pat.length) 0 := by rw [hk, Int.toNat_natCast]
      have hp1 : (k % 2 = 0) = (kk % 2 = 0) := by rw [h.kE]; exact par_k hP kk
      have hp2 : ((k + 1) % (pat.length : Int) % 2 = 0) = ((kk + 1) % 2 = 0) := by rw [hk]; exact par_k hP (kk + 1)
      have hE2 : Bk pat ph (kk + 1) + pat.getD ((kk + 1) % pat.length) 0 = Bk pat ph (kk + 1 + 1) := rfl
      have hE1 : Bk pat ph kk + pat.getD (kk % pat.length) 0 = Bk pat ph (kk + 1) := rfl
      obtain ⟨f', rfl⟩ : ∃ f', f = f' + 1 := ⟨f - 1, by have := h.fE; omega⟩
      have hr := h.rE
      rw [refGo, if_pos (by omega), hE1] at hr
      have hfE := h.fE
      have hfe : (allD way - Bk pat ph (kk + 1)).toNat < f' := by omega
      rw [hx, ← hpp]
      have hmeas : meas (lenQ a b) (t + left) (pat.getD ((kk + 1) % pat.length) 0) < f0 := by
        unfold meas at hm ⊢
        split <;> split at hm <;> omega
      by_cases hev : kk % 2 = 0
      · have hod : ¬ ((kk + 1) % 2 = 0) := by omega
        have hls := h.lE
        rw [if_pos hev] at hls
        have hnx : nextL k ((k + 1) % (pat.length : Int)) ls (atR way (Bk pat ph (kk + 1))) = done ++ [pieceR way (Bk pat ph kk) (Bk pat ph (kk + 1))] := by
          unfold nextL
          rw [if_pos (hp1 ▸ hev), if_neg (fun e => hod (hp2 ▸ e)), List.append_nil, hls, addL_snoc]
          unfold pieceR
          rw [midR_more hW hlt (by omega) way.length (by omega) (Nat.le_refl _), if_pos (by omega)]
        rw [hnx]
        rw [if_pos ⟨hev, hbp⟩] at hr
        by_cases g2 : 4096 < (done ++ [pieceR way (Bk pat ph kk) (Bk pat ph (kk + 1))]).length
        · rw [if_pos g2] at hr ⊢
          exact ⟨fun _ => hr.symm, fun t' k' left' ls' hh => by cases hh⟩
        · rw [if_neg g2] at hr ⊢
          refine lineGo_ref ha hb f0 _ _ _ _ ⟨kk + 1, f', _, ⟨hk, by omega, by omega, by omega, by omega, by omega, by rw [if_neg hod, List.append_nil], hr, hfe, by omega⟩⟩ (by omega) hmeas
      · have hod : (kk + 1) % 2 = 0 := by omega
        have hls := h.lE
        rw [if_neg hev, List.append_nil] at hls
        have hnx : nextL k ((k + 1) % (pat.length : Int)) ls (atR way (Bk pat ph (kk + 1))) = done ++ [[atR way (Bk pat ph (kk + 1))]] := by
          unfold nextL
          rw [if_neg (fun e => hev (hp1 ▸ e)), if_pos (hp2 ▸ hod), hls]
        rw [hnx]
        rw [if_neg (fun e => hev e.1)] at hr
        have hpart : begR way (Bk pat ph (kk + 1)) ++ midR way (Bk pat ph (kk + 1)) (Bk pat ph (kk + 1 + 1)) (i + 1) = [atR way (Bk pat ph (kk + 1))] := by
          rw [midR_none hW (by omega) (by omega) (i + 1) (Nat.le_refl _), List.append_nil]
          unfold begR
          rw [if_neg (by omega)]
        by_cases g2 : 4096 < (done ++ [[atR way (Bk pat ph (kk + 1))]]).length
        · rw [if_pos g2]
          refine ⟨fun _ => ?_, fun t' k' left' ls' hh => by cases hh⟩
          obtain ⟨f'', rfl⟩ : ∃ f'', f' = f'' + 1 := ⟨f' - 1, by omega⟩
          rw [refGo, if_pos (by omega), hE2, if_pos ⟨hod, by omega⟩, if_pos (by rw [List.length_append] at g2 ⊢; exact g2)] at hr
          exact hr.symm
        · rw [if_neg g2]
          refine lineGo_ref ha hb f0 _ _ _ _ ⟨kk + 1, f', done, ⟨hk, by omega, by omega, by omega, by omega, by omega, by rw [if_pos hod, hpart], hr, hfe, by omega⟩⟩ (by omega) hmeas
    · rw [if_neg g]
      exact ⟨fun hh => (by cases hh), fun t' k' left' ls' hh => by cases hh; exact ⟨⟨kk, f, done, h⟩, htN, g⟩⟩
end

/- A pen along a way leaves what whole distances tell. Plain. Conditions: those that each theorem names. -/
open Go Go.Proofs
set_option linter.unusedVariables false

section
variable {pat : List Int} (hP : PatI pat) {way : List Pt} (hW : WayI way) {ph : Int}
include hP hW
theorem lineS_ref {R : Option (List (List Pt))} {i : Nat} {a b : Pt} (ha : way[i]? = some a) (hb : way[i + 1]? = some b) {k left : Int} {ls : List (List Pt)} (h : ∃ kk f done, PenAt pat way ph R i 0 k left ls kk f done) :
    (lineS pat a b k left ls = none → R = none) ∧ ∀ k' left' ls', lineS pat a b k left ls = some (k', left', ls') → ∃ kk f done, PenAt pat way ph R (i + 1) 0 k' left' ls' kk f done ∧ Bk pat ph kk < Dw way (i + 1) := by
  have hlt : i + 1 < way.length := (List.getElem?_eq_some_iff.1 hb).1
  have eD : Dw way (i + 1) = Dw way i + lenQ a b := by rw [Dw, ha, hb]
  have hN := hW.len i a b ha hb
  obtain ⟨g1, g2⟩ := lineGo_ref hP hW ha hb (2 * (lenQ a b).toNat + 2) 0 k left ls h (by omega) (by unfold meas; split <;> omega)
  unfold lineS
  cases hr : lineGo pat a b (lenQ a b) (2 * (lenQ a b).toNat + 2) 0 k left ls with
  | none => exact ⟨fun _ => g1 hr, fun k' left' ls' hh => by cases hh⟩
  | some r =>
    obtain ⟨t1, k1, left1, ls1⟩ := r
    obtain ⟨⟨kk, f, done, h1⟩, ht, hl⟩ := g2 t1 k1 left1 ls1 hr
    refine ⟨fun hh => (by cases hh), fun k' left' ls' hh => ?_⟩
    simp only [lineE, Option.some.injEq, Prod.mk.injEq] at hh
    obtain ⟨rfl, rfl, rfl⟩ := hh
    have hdE := h1.dE
    have hbt := h1.bt
    have hl0 := h1.l0
    have ht0 := h1.t0
    have hp1 : (k1 % 2 = 0) = (kk % 2 = 0) := by rw [h1.kE]; exact par_k hP kk
    have hD0 : 0 < Dw way (i + 1) := hW.lt (i := 0) (j := i + 1) (by omega) hlt
    refine ⟨kk, f, done, ⟨h1.kE, by omega, by omega, Int.le_refl _, h1.bp, by omega, ?_, h1.rE, h1.fE, ?_⟩, by omega⟩
    · by_cases hev : kk % 2 = 0
      · have hls := h1.lE
        rw [if_pos hev] at hls
        rw [if_pos (hp1 ▸ hev), if_pos hev, hls, addL_snoc]
        have e : midR way (Bk pat ph kk) (Bk pat ph (kk + 1)) (i + 1 + 1) = midR way (Bk pat ph kk) (Bk pat ph (kk + 1)) (i + 1) ++ [b] := by
          rw [midR, if_pos (by omega), hb]
          rfl
        rw [e, List.append_assoc]
      · have hls := h1.lE
        rw [if_neg hev] at hls
        rw [if_neg (fun e => hev (hp1 ▸ e)), if_neg hev]
        exact hls
    · have := h1.le
      split
      · rw [addL_len]; exact this
      · exact this
theorem dashTo_ref {R : Option (List (List Pt))} {k left : Int} {ls : List (List Pt)} (h : ∃ kk f done, PenAt pat way ph R 0 0 k left ls kk f done) : ∀ i, i + 1 ≤ way.length →
    (dashTo pat way (k, left, ls) i = none → R = none) ∧ ∀ k' left' ls', dashTo pat way (k, left, ls) i = some (k', left', ls') → ∃ kk f done, PenAt pat way ph R i 0 k' left' ls' kk f done ∧ (1 ≤ i → Bk pat ph kk < Dw way i)
  | 0, _ => ⟨fun hh => (by cases hh), fun k' left' ls' hh => by
      rw [dashTo] at hh
      cases hh
      obtain ⟨kk, f, done, h1⟩ := h
      exact ⟨kk, f, done, h1, fun h => by omega⟩⟩
  | i + 1, hi => by
    obtain ⟨q1, q2⟩ := dashTo_ref h i (by omega)
    rw [dashTo]
    cases hr : dashTo pat way (k, left, ls) i with
    | none => exact ⟨fun _ => q1 hr, fun k' left' ls' hh => by cases hh⟩
    | some st =>
      obtain ⟨k1, left1, ls1⟩ := st
      obtain ⟨kk, f, done, h1, _⟩ := q2 k1 left1 ls1 hr
      obtain ⟨a, b, ha, hb, _, _⟩ := hW.step (i := i) (by omega)
      simp only [ha, hb]
      obtain ⟨g1, g2⟩ := lineS_ref hP hW ha hb ⟨kk, f, done, h1⟩
      refine ⟨g1, fun k' left' ls' hh => ?_⟩
      obtain ⟨kk', f', done', h2, h3⟩ := g2 k' left' ls' hh
      exact ⟨kk', f', done', h2, fun _ => h3⟩
omit hP in
theorem all_pos : 1 ≤ allD way := by
  have h2 := hW.two
  exact hW.lt (i := 0) (j := way.length - 1) (by omega) (by omega)
theorem phGo_ref : ∀ (f : Nat) (t k : Int) (kk g : Nat), k = ((kk % pat.length : Nat) : Int) → t = -(Bk pat ph kk) → 0 ≤ t → t.toNat < f → (allD way - Bk pat ph kk).toNat < g →
    ∃ kk' g', (phGo pat f t k).1 = ((kk' % pat.length : Nat) : Int) ∧ (phGo pat f t k).2 = Bk pat ph (kk' + 1) ∧ Bk pat ph kk' ≤ 0 ∧ 0 < Bk pat ph (kk' + 1) ∧ (allD way - Bk pat ph kk').toNat < g' ∧ refGo pat way g kk (Bk pat ph kk) [] = refGo pat way g' kk' (Bk pat ph kk') []
  | 0, _, _, _, _, _, _, _, hf, _ => by omega
  | f + 1, t, k, kk, g, hk, ht, h0, hf, hg => by
    have hpo := hP.po
    have hx : pat.getD k.toNat 0 = pat.getD (kk % pat.length) 0 := by rw [hk, Int.toNat_natCast]
    have hE : Bk pat ph kk + pat.getD (kk % pat.length) 0 = Bk pat ph (kk + 1) := rfl
    have hB := Bk_le hP ph kk
    have hall := all_pos hW
    rw [phGo, hx]
    by_cases c : t < pat.getD (kk % pat.length) 0
    · rw [if_pos c]
      exact ⟨kk, g, hk, by simp only; omega, by omega, by omega, hg, rfl⟩
    · rw [if_neg c]
      obtain ⟨g', rfl⟩ : ∃ g', g = g' + 1 := ⟨g - 1, by omega⟩
      obtain ⟨kk', g'', q1, q2, q3, q4, q5, q6⟩ := phGo_ref f (t - pat.getD (kk % pat.length) 0) ((k + 1) % pat.length) (kk + 1) g' (by rw [hk]; exact nx_k hP kk) (by omega) (by omega) (by omega) (by omega)
      refine ⟨kk', g'', q1, q2, q3, q4, q5, ?_⟩
      rw [refGo, if_pos (by omega), hE, if_neg (by omega)]
      exact q6
/-- What a pen leaves of a way, by whole distances. -/
theorem dashL_ref (hph : 0 ≤ ph) : dashL pat ph way = refGo pat way ((allD way + ph).toNat + 1) 0 (-ph) [] := by
  have h2 := hW.two
  have hpo := hP.po
  obtain ⟨kk, g, e1, e2, e3, e4, e5, e6⟩ := phGo_ref hP hW (ph := ph) (ph.toNat + 1) ph 0 0 ((allD way + ph).toNat + 1) (by simp) (by simp [Bk]) hph (by omega) (by show (allD way - -ph).toNat < _; omega)
  obtain ⟨R, hR⟩ : ∃ R, R = refGo pat way ((allD way + ph).toNat + 1) 0 (-ph) [] := ⟨_, rfl⟩
  rw [← hR]
  have hR2 : refGo pat way g kk (Bk pat ph kk) [] = R := by rw [hR, ← e6]; rfl
  have ht1 : (way.take 1).map (fun p => [p]) = [way.take 1] := by
    match way, h2 with
    | p :: t, _ => rfl
  have hst : ∃ kk f done, PenAt pat way ph R 0 0 (phS pat ph).1 (phS pat ph).2 (if (phS pat ph).1 % 2 = 0 then (way.take 1).map (fun p => [p]) else []) kk f done := by
    have hp1 : ((phS pat ph).1 % 2 = 0) = (kk % 2 = 0) := by
      rw [show (phS pat ph).1 = ((kk % pat.length : Nat) : Int) from e1]; exact par_k hP kk
    refine ⟨kk, g, [], ⟨e1, ?_, ?_, Int.le_refl _, e4, ?_, ?_, hR2, e5, ?_⟩⟩
    · rw [show (phS pat ph).2 = Bk pat ph (kk + 1) from e2]; simp [Dw]
    · rw [show (phS pat ph).2 = Bk pat ph (kk + 1) from e2]; omega
    · simp only [Dw]; omega
    · rw [List.nil_append]
      by_cases hev : kk % 2 = 0
      · rw [if_pos (hp1 ▸ hev), if_pos hev, ht1]
        have e : midR way (Bk pat ph kk) (Bk pat ph (kk + 1)) (0 + 1) = [] := by
          rw [midR, if_neg (by omega)]
          rfl
        rw [e, List.append_nil]
        unfold begR
        rw [if_pos e3]
      · rw [if_neg (fun e => hev (hp1 ▸ e)), if_neg hev]
    · split
      · rw [ht1]; simp
      · simp
  obtain ⟨g1, g2⟩ := dashTo_ref hP hW hst (way.length - 1) (by omega)
  unfold dashL pen0
  cases hr : dashTo pat way ((phS pat ph).1, (phS pat ph).2, if (phS pat ph).1 % 2 = 0 then (way.take 1).map (fun p => [p]) else []) (way.length - 1) with
  | none => rw [g1 hr]; rfl
  | some st =>
    obtain ⟨k1, left1, ls1⟩ := st
    obtain ⟨kk1, f1, done1, h1, h3⟩ := g2 k1 left1 ls1 hr
    have h3' := h3 (by omega)
    have hdE := h1.dE
    have hl0 := h1.l0
    have hbp := h1.bp
    have hE : Bk pat ph kk1 + pat.getD (kk1 % pat.length) 0 = Bk pat ph (kk1 + 1) := rfl
    have hall : Dw way (way.length - 1) = allD way := rfl
    obtain ⟨f', rfl⟩ : ∃ f', f1 = f' + 1 := ⟨f1 - 1, by have := h1.fE; omega⟩
    have hrE := h1.rE
    have hle := h1.le
    have hls := h1.lE
    have stop : ∀ out, refGo pat way f' (kk1 + 1) (Bk pat ph (kk1 + 1)) out = some out := fun out => by
      cases f' with
      | zero => rfl
      | succ f' => rw [refGo, if_neg (by omega)]
    rw [refGo, if_pos (by omega), hE] at hrE
    simp only [Option.map_some]
    by_cases hev : kk1 % 2 = 0
    · rw [if_pos hev] at hls
      have hpc : pieceR way (Bk pat ph kk1) (Bk pat ph (kk1 + 1)) = begR way (Bk pat ph kk1) ++ midR way (Bk pat ph kk1) (Bk pat ph (kk1 + 1)) (way.length - 1 + 1) := by
        unfold pieceR
        rw [if_neg (by omega), List.append_nil, show way.length - 1 + 1 = way.length by omega]
      rw [if_pos ⟨hev, hbp⟩, hpc, ← hls, if_neg (by omega), stop] at hrE
      exact hrE
    · rw [if_neg hev, List.append_nil] at hls
      rw [if_neg (fun e => hev e.1), stop, ← hls] at hrE
      exact hrE
end

/- Rows without repeated points: neighbours differ. Conditions: those that each theorem names. -/
open Go Go.Proofs
set_option linter.unusedSimpArgs false
set_option linter.unusedVariables false

theorem pln_last {l : List Pt} : ∀ {i : Nat}, 0 < i → i ≤ l.length → 0 < (pln l i).length ∧ (pln l i)[(pln l i).length - 1]? = l[i - 1]?
  | 0, h, _ => absurd h (by decide)
  | i + 1, _, h => by
    have hp : l[i]? = some l[i] := List.getElem?_eq_getElem (by omega)
    rw [pln]
    split
    · rw [hp]
      simp
    · rename_i hn
      have h0 : i ≠ 0 := fun e => hn (Or.inl e)
      have he : l[i]? = l[i - 1]? := Classical.byContradiction fun e => hn (Or.inr e)
      have := pln_last (l := l) (i := i) (by omega) (by omega)
      rw [show i + 1 - 1 = i by omega, he]
      exact this
theorem pln_adj {l : List Pt} : ∀ {i : Nat}, i ≤ l.length → ∀ j p q, (pln l i)[j]? = some p → (pln l i)[j + 1]? = some q → p ≠ q
  | 0, _, j, p, q, h, _ => by simp [pln] at h
  | i + 1, hi, j, p, q, hp, hq => by
    have hx : l[i]? = some l[i] := List.getElem?_eq_getElem (by omega)
    rw [pln] at hp hq
    split at hp
    · rename_i hc
      rw [if_pos hc] at hq
      rw [hx] at hp hq
      simp only [Option.toList_some] at hp hq
      rcases Nat.lt_trichotomy (j + 1) (pln l i).length with h | h | h
      · rw [List.getElem?_append_left (by omega)] at hp hq
        exact pln_adj (by omega) j p q hp hq
      · rw [List.getElem?_append_left (by omega)] at hp
        rw [List.getElem?_append_right (by omega), show j + 1 - (pln l i).length = 0 by omega] at hq
        simp only [List.getElem?_cons_zero, Option.some.injEq] at hq
        by_cases h0 : i = 0
        · subst h0
          simp [pln] at h
        · have hl := (pln_last (l := l) (i := i) (by omega) (by omega)).2
          rw [show (pln l i).length - 1 = j by omega, hp] at hl
          have hne := hc.resolve_left h0
          rw [hx, ← hl] at hne
          intro e
          apply hne
          rw [e, ← hq]
      · rw [List.getElem?_append_right (by omega)] at hq
        have : ([l[i]] : List Pt)[j + 1 - (pln l i).length]? = none := List.getElem?_eq_none (by simp; omega)
        rw [this] at hq
        cases hq
    · rename_i hc
      rw [if_neg hc] at hq
      exact pln_adj (by omega) j p q hp hq

/- The lines of a way have lengths. Plain. Conditions: those that each theorem names. -/
open Go Go.Proofs
set_option linter.unusedVariables false

theorem way_adj {l : List Pt} {c : Bool} {i : Nat} {p q : Pt} (hp : (wayL l c)[i]? = some p) (hq : (wayL l c)[i + 1]? = some q) : p ≠ q := by
  unfold wayL at hp hq
  split at hp
  · rename_i g
    rw [if_pos g] at hq
    obtain ⟨_, g1, g2⟩ := g
    have hlt : i + 1 < (pln l l.length ++ (pln l l.length).take 1).length := (List.getElem?_eq_some_iff.1 hq).1
    rw [List.length_append, List.length_take] at hlt
    by_cases hi : i + 1 < (pln l l.length).length
    · rw [List.getElem?_append_left (by omega)] at hp
      rw [List.getElem?_append_left hi] at hq
      exact pln_adj (Nat.le_refl _) i p q hp hq
    · have hi2 : i = (pln l l.length).length - 1 := by omega
      rw [List.getElem?_append_left (by omega)] at hp
      rw [List.getElem?_append_right (by omega)] at hq
      rw [show i + 1 - (pln l l.length).length = 0 by omega, List.getElem?_take_of_lt (by decide)] at hq
      intro e
      subst e
      rw [hi2] at hp
      exact g2 (hp.trans hq.symm)
  · rename_i g
    rw [if_neg g] at hq
    exact pln_adj (Nat.le_refl _) i p q hp hq
theorem lenQ_pos {a b : Pt} (hab : a ≠ b) (hl : longB (b.x - a.x) (b.y - a.y) = false) : 1 ≤ lenQ a b := by
  have sq := sq_bd hl
  have hn : 0 ≤ (b.x - a.x) * (b.x - a.x) + (b.y - a.y) * (b.y - a.y) := by omega
  obtain ⟨s1, s2, s3⟩ := isq_spec hn
  unfold lenQ
  rcases Int.lt_or_le 0 (isq ((b.x - a.x) * (b.x - a.x) + (b.y - a.y) * (b.y - a.y))) with g | g
  · omega
  · exfalso
    have e : isq ((b.x - a.x) * (b.x - a.x) + (b.y - a.y) * (b.y - a.y)) = 0 := by omega
    rw [e] at s3
    simp only [Int.zero_add, Int.mul_one] at s3
    have hx : b.x - a.x = 0 := by
      rcases Int.lt_trichotomy (b.x - a.x) 0 with h | h | h
      · have : 0 < (b.x - a.x) * (b.x - a.x) := Int.mul_pos_of_neg_of_neg h h
        omega
      · exact h
      · have : 0 < (b.x - a.x) * (b.x - a.x) := Int.mul_pos h h
        omega
    have hy : b.y - a.y = 0 := by
      rcases Int.lt_trichotomy (b.y - a.y) 0 with h | h | h
      · have : 0 < (b.y - a.y) * (b.y - a.y) := Int.mul_pos_of_neg_of_neg h h
        omega
      · exact h
      · have : 0 < (b.y - a.y) * (b.y - a.y) := Int.mul_pos h h
        omega
    refine hab ?_
    cases a; cases b
    simp only at hx hy
    congr 1 <;> omega
theorem way_I {l : List Pt} {c : Bool} (hg : anyLg (wayL l c) (wayL l c).length = false) (h2 : 2 ≤ (wayL l c).length) : WayI (wayL l c) :=
  ⟨h2, fun i a b ha hb => lenQ_pos (way_adj ha hb) (lg_at hg ha hb)⟩

/- Patterns that leave the same. Conditions: those that each theorem names. -/
open Go Go.Proofs
set_option linter.unusedSimpArgs false
set_option linter.unusedVariables false

theorem dash_one {pat : List Int} {ph : Int} {way : List Pt} (h : way.length = 1) : dashL pat ph way = some (if (phS pat ph).1 % 2 = 0 then [way] else []) := by
  obtain ⟨p, rfl⟩ : ∃ p, way = [p] := List.length_eq_one_iff.1 h
  unfold dashL
  show some (if (phS pat ph).1 % 2 = 0 then (List.take 1 [p]).map (fun p => [p]) else []) = _
  rfl
theorem PatI.one {pat : List Int} (hP : PatI pat) (k : Nat) : 1 ≤ pat.getD (k % pat.length) 0 := by
  have := Bk_le hP 0 k
  rw [Bk] at this
  omega
theorem Bk_mono {pat : List Int} (hP : PatI pat) (ph : Int) {i : Nat} : ∀ {j : Nat}, i < j → Bk pat ph i < Bk pat ph j
  | 0, h => by omega
  | j + 1, h => by
    have := Bk_le hP ph j
    rcases Nat.lt_or_ge i j with h1 | h1
    · have := Bk_mono hP ph h1; omega
    · have : i = j := by omega
      subst this
      omega
theorem refGo_shift {pat pat2 : List Int} {way : List Pt} : ∀ (f k k2 : Nat) (b : Int) (out : List (List Pt)), (∀ i, pat2.getD ((k2 + i) % pat2.length) 0 = pat.getD ((k + i) % pat.length) 0) → k2 % 2 = k % 2 → refGo pat2 way f k2 b out = refGo pat way f k b out
  | 0, _, _, _, _, _, _ => rfl
  | f + 1, k, k2, b, out, h, hp => by
    have h0 := h 0
    rw [Nat.add_zero, Nat.add_zero] at h0
    have ih := fun b out => refGo_shift (way := way) f (k + 1) (k2 + 1) b out (fun i => by have := h (i + 1); rwa [show k2 + 1 + i = k2 + (i + 1) by omega, show k + 1 + i = k + (i + 1) by omega]) (by omega)
    rw [refGo, refGo, h0, hp]
    simp only [ih]
theorem refGo_fuel {pat : List Int} (hP : PatI pat) {way : List Pt} : ∀ (f f' k : Nat) (b : Int) (out : List (List Pt)), (allD way - b).toNat < f → (allD way - b).toNat < f' → refGo pat way f k b out = refGo pat way f' k b out
  | 0, _, _, _, _, h, _ => by omega
  | f + 1, f', k, b, out, h, h' => by
    obtain ⟨g, rfl⟩ : ∃ g, f' = g + 1 := ⟨f' - 1, by omega⟩
    have hx := hP.one k
    by_cases hb : b < allD way
    · have ih := fun out => refGo_fuel hP (way := way) f g (k + 1) (b + pat.getD (k % pat.length) 0) out (by omega) (by omega)
      rw [refGo, refGo]
      simp only [ih]
    · rw [refGo, refGo, if_neg hb, if_neg hb]
theorem refGo_to {pat : List Int} (hP : PatI pat) {way : List Pt} (hW : WayI way) {ph : Int} : ∀ (s f g : Nat), Bk pat ph s ≤ 0 → (allD way + ph).toNat < f → (allD way - Bk pat ph s).toNat < g → refGo pat way f 0 (-ph) [] = refGo pat way g s (Bk pat ph s) []
  | 0, f, g, _, hf, hg => refGo_fuel hP f g 0 (-ph) [] (by omega) hg
  | s + 1, f, g, hs, hf, hg => by
    have hle := Bk_le hP ph s
    have hall := all_pos hW
    rw [refGo_to hP hW s f ((allD way - Bk pat ph s).toNat + 1) (by omega) hf (by omega), refGo, if_pos (by omega)]
    have hE : Bk pat ph s + pat.getD (s % pat.length) 0 = Bk pat ph (s + 1) := rfl
    rw [hE, if_neg (by omega)]
    exact refGo_fuel hP _ _ _ _ _ (by omega) hg
theorem way0 : WayI [⟨0, 0⟩, ⟨1, 0⟩] := by
  refine ⟨by decide, fun i a b ha hb => ?_⟩
  cases i with
  | zero =>
    simp at ha hb
    subst ha
    subst hb
    exact lenQ_pos (by decide) (by decide)
  | succ i => simp at hb
theorem ph_at {pat : List Int} (hP : PatI pat) {ph : Int} (hph : 0 ≤ ph) : ∃ kk : Nat, ((phS pat ph).1 % 2 = 0) = (kk % 2 = 0) ∧ Bk pat ph kk ≤ 0 ∧ 0 < Bk pat ph (kk + 1) := by
  obtain ⟨kk, g, e1, e2, e3, e4, e5, e6⟩ := phGo_ref hP way0 (ph := ph) (ph.toNat + 1) ph 0 0 ((allD [⟨0, 0⟩, ⟨1, 0⟩] - -ph).toNat + 1) (by simp) (by simp [Bk]) hph (by omega) (by show (allD [⟨0, 0⟩, ⟨1, 0⟩] - -ph).toNat < _; omega)
  refine ⟨kk, ?_, e3, e4⟩
  rw [show (phS pat ph).1 = ((kk % pat.length : Nat) : Int) from e1]
  exact par_k hP kk
/-- Two patterns that are one from some length on. -/
theorem turn_gen {p1 p2 : List Int} (hP1 : PatI p1) (hP2 : PatI p2) {ph1 ph2 : Int} (h1 : 0 ≤ ph1) (h2 : 0 ≤ ph2) {s1 s2 : Nat} (hg : ∀ i, p2.getD ((s2 + i) % p2.length) 0 = p1.getD ((s1 + i) % p1.length) 0)
    (hB : Bk p2 ph2 s2 = Bk p1 ph1 s1) (hs : Bk p1 ph1 s1 ≤ 0) (hp : s2 % 2 = s1 % 2) {way : List Pt} (hW : WayI way ∨ way.length = 1) : dashL p2 ph2 way = dashL p1 ph1 way := by
  rcases hW with hW | hW
  · rw [dashL_ref hP1 hW h1, dashL_ref hP2 hW h2, refGo_to hP1 hW s1 _ ((allD way - Bk p1 ph1 s1).toNat + 1) hs (by omega) (by omega), refGo_to hP2 hW s2 _ ((allD way - Bk p1 ph1 s1).toNat + 1) (by omega) (by omega) (by omega), hB]
    exact refGo_shift _ _ _ _ _ hg hp
  · rw [dash_one hW, dash_one hW]
    have hBk : ∀ j, Bk p2 ph2 (s2 + j) = Bk p1 ph1 (s1 + j) := by
      intro j
      induction j with
      | zero => exact hB
      | succ j ih => rw [← Nat.add_assoc, ← Nat.add_assoc, Bk, Bk, ih, hg]
    obtain ⟨k1, a1, a2, a3⟩ := ph_at hP1 h1
    obtain ⟨k2, b1, b2, b3⟩ := ph_at hP2 h2
    have e1 : s1 ≤ k1 := by
      rcases Nat.lt_or_ge k1 s1 with h | h
      · rcases Nat.lt_or_ge (k1 + 1) s1 with h' | h'
        · have := Bk_mono hP1 ph1 h'; omega
        · have : k1 + 1 = s1 := by omega
          rw [this] at a3; omega
      · exact h
    have e2 := hBk (k1 - s1)
    have e3 := hBk (k1 + 1 - s1)
    rw [show s1 + (k1 - s1) = k1 by omega] at e2
    rw [show s1 + (k1 + 1 - s1) = k1 + 1 by omega, show s2 + (k1 + 1 - s1) = s2 + (k1 - s1) + 1 by omega] at e3
    have e4 : k2 = s2 + (k1 - s1) := by
      rcases Nat.lt_trichotomy k2 (s2 + (k1 - s1)) with h | h | h
      · rcases Nat.lt_or_ge (k2 + 1) (s2 + (k1 - s1)) with h' | h'
        · have := Bk_mono hP2 ph2 h'; omega
        · have : k2 + 1 = s2 + (k1 - s1) := by omega
          rw [this] at b3; omega
      · exact h
      · rcases Nat.lt_or_ge (s2 + (k1 - s1) + 1) k2 with h' | h'
        · have := Bk_mono hP2 ph2 h'; omega
        · have : s2 + (k1 - s1) + 1 = k2 := by omega
          rw [← this] at b2; omega
    have e5 : (k1 % 2 = 0) = (k2 % 2 = 0) := by apply propext; omega
    have e6 : ((phS p2 ph2).1 % 2 = 0) = ((phS p1 ph1).1 % 2 = 0) := by rw [a1, b1, e5]
    simp only [e6]
theorem dbl_get (pat : List Int) (j : Nat) (h : j < pat.length + pat.length) : (pat ++ pat).getD j 0 = pat.getD (j % pat.length) 0 := by
  simp only [List.getD_eq_getElem?_getD]
  rcases Nat.lt_or_ge j pat.length with h1 | h1
  · rw [List.getElem?_append_left h1, Nat.mod_eq_of_lt h1]
  · rw [List.getElem?_append_right h1, Nat.mod_eq_sub_mod h1, Nat.mod_eq_of_lt (by omega)]
/-- A pattern told twice over. -/
theorem dash_dbl {pat : List Int} (hP : PatI pat) (hP2 : PatI (pat ++ pat)) {ph : Int} (h : 0 ≤ ph) {way : List Pt} (hW : WayI way ∨ way.length = 1) : dashL (pat ++ pat) ph way = dashL pat ph way := by
  have hpo := hP.po
  refine turn_gen hP hP2 h h (s1 := 0) (s2 := 0) (fun i => ?_) rfl (by simp [Bk]; omega) rfl hW
  rw [Nat.zero_add, List.length_append, dbl_get pat _ (Nat.mod_lt _ (by omega)), Nat.mod_mod_of_dvd _ ⟨2, by omega⟩]
/-- A pattern begun one pair later. -/
theorem dash_rot {a b : Int} {t : List Int} (ht : t = [] ∨ ∃ c d, t = [c, d]) (hP : PatI (a :: b :: t)) (hP2 : PatI (t ++ [a, b])) {ph : Int} (h : 0 ≤ ph) (hs : ph < (a :: b :: t).sum) {way : List Pt} (hW : WayI way ∨ way.length = 1) :
    dashL (t ++ [a, b]) (if ph - a - b < 0 then ph - a - b + (a :: b :: t).sum else ph - a - b) way = dashL (a :: b :: t) ph way := by
  have ha := hP.bd a (by simp)
  have hb := hP.bd b (by simp)
  rcases ht with rfl | ⟨c, d, rfl⟩
  · simp only [List.sum_cons, List.sum_nil] at hs
    rw [if_pos (by omega)]
    simp only [List.sum_cons, List.sum_nil, List.nil_append]
    rw [show ph - a - b + (a + (b + 0)) = ph by omega]
  · have hc := hP.bd c (by simp)
    have hd := hP.bd d (by simp)
    simp only [List.sum_cons, List.sum_nil] at hs ⊢
    by_cases g : ph - a - b < 0
    · rw [if_pos g]
      refine turn_gen hP hP2 h (by omega) (s1 := 0) (s2 := 2) (fun i => ?_) ?_ (by simp [Bk]; omega) rfl hW
      · have h4 : i % 4 = 0 ∨ i % 4 = 1 ∨ i % 4 = 2 ∨ i % 4 = 3 := by omega
        simp only [List.length_cons, List.length_append, List.length_nil, Nat.zero_add, Nat.reduceAdd]
        rcases h4 with h4 | h4 | h4 | h4
        · rw [h4, show (2 + i) % 4 = 2 by omega]; rfl
        · rw [h4, show (2 + i) % 4 = 3 by omega]; rfl
        · rw [h4, show (2 + i) % 4 = 0 by omega]; rfl
        · rw [h4, show (2 + i) % 4 = 1 by omega]; rfl
      · simp [Bk]
        omega
    · rw [if_neg g]
      refine turn_gen hP hP2 h (by omega) (s1 := 2) (s2 := 0) (fun i => ?_) ?_ (by simp [Bk]; omega) rfl hW
      · have h4 : i % 4 = 0 ∨ i % 4 = 1 ∨ i % 4 = 2 ∨ i % 4 = 3 := by omega
        simp only [List.length_cons, List.length_append, List.length_nil, Nat.zero_add, Nat.reduceAdd]
        rcases h4 with h4 | h4 | h4 | h4
        · rw [h4, show (2 + i) % 4 = 2 by omega]; rfl
        · rw [h4, show (2 + i) % 4 = 3 by omega]; rfl
        · rw [h4, show (2 + i) % 4 = 0 by omega]; rfl
        · rw [h4, show (2 + i) % 4 = 1 by omega]; rfl
      · simp [Bk]
        omega

/- What Dash hands back, case by case. Conditions: those that each theorem names. -/
open Go Go.Proofs
set_option linter.unusedSimpArgs false
set_option linter.unusedVariables false

/-- A row of open subpaths, read. -/
def RowF (base : Nat) (m : Mem) (n : Nat) (x : Reg) (ls : List (List Pt)) : Prop :=
  (x = rnil ∧ ls = []) ∨ ∃ id cap b, x = .one (.sl id 0 ls.length cap 2) ∧ base ≤ id ∧ id < n ∧ m id = some b ∧ ∀ (i : Nat) (l : List Pt), ls[i]? = some l → ∃ c, b.cells[i * 2]? = some c ∧ b.cells[i * 2 + 1]? = some (.sc (.bool false)) ∧ RPt m n (.one c) l ∧ ∀ j, sid (.one c) = some j → base ≤ j
theorem RowF.len {base : Nat} {m : Mem} {n : Nat} {x : Reg} {ls : List (List Pt)} (h : RowF base m n x ls) : lenO x = some (ls.length : Int) := by
  rcases h with ⟨rfl, rfl⟩ | ⟨id, cap, b, rfl, _⟩ <;> rfl
theorem RowF.keep {base : Nat} {m m' : Mem} {n n' : Nat} {x : Reg} {ls : List (List Pt)} (h : RowF base m n x ls) (hn : n ≤ n') (hm : ∀ id, base ≤ id → id < n → m' id = m id) : RowF base m' n' x ls := by
  rcases h with h | ⟨id, cap, b, e1, e2, e3, e4, e5⟩
  · exact Or.inl h
  · refine Or.inr ⟨id, cap, b, e1, e2, by omega, by rw [hm id e2 e3]; exact e4, fun i l hi => ?_⟩
    obtain ⟨c, k1, k2, k3, k4⟩ := e5 i l hi
    exact ⟨c, k1, k2, k3.keep' hn (fun j hj => hm j (k4 j hj) (k3.lt hj)), k4⟩
theorem OSb.rowF {A : Nat → Prop} {pid base : Nat} {m : Mem} {n : Nat} {oc : Cell} {ls : List (List Pt)} (h : OSb A pid m n oc ls) (hb : base ≤ pid) : RowF base m n (.one oc) ls := by
  obtain ⟨cs, h1, h2, h3, h4⟩ := h
  rcases h1 with ⟨e1, e2⟩ | ⟨id, e1, e2, e3, e4⟩
  · subst e2
    exact Or.inl ⟨e1, List.length_eq_zero_iff.1 (by simpa using h3.symm)⟩
  · refine Or.inr ⟨id, none, _, by rw [← h3]; exact e1, by omega, e3, e4, fun i l hi => ?_⟩
    obtain ⟨c, k1, k2, k3⟩ := h4 i l hi
    have hrl : RL encS 2 m n (.one oc) cs := OL.rl sc2 (Or.inr ⟨id, e1, e2, e3, e4⟩)
    obtain ⟨id', off, cap', q1, q2, q3⟩ := hrl.at sc2 k1
    rw [e1] at q1
    simp only [Reg.one.injEq, Cell.sl.injEq, true_and, and_true] at q1
    obtain ⟨rfl, rfl, rfl⟩ := q1
    obtain ⟨b, q4, q5⟩ := rd_cell q3 (a := 0) (c := c) rfl
    obtain ⟨b', q6, q7⟩ := rd_cell q3 (a := 1) (c := .sc (.bool false)) rfl
    rw [e4] at q4 q6
    cases q4
    cases q6
    rw [Nat.zero_add, Nat.add_zero] at q5
    rw [Nat.zero_add] at q7
    exact ⟨c, q5, q7, k2.rl, fun j hj => by have := (k2.lt hj).1; omega⟩
/-- What Dash hands back. -/
theorem dash_cases {l : List Pt} {c : Bool} {pat : List Int} {ph : Int} {n : Nat} {x : Reg} {k : Int} {m' : Mem} {n' : Nat} (h : DashQ l (wayL l c) c pat ph n x k m' n') (hl : l.length ≤ 900000) :
    ((rightB pat ph = false ∨ l.all inP = false) ∧ x = rnil ∧ k = 30) ∨
    (rightB pat ph = true ∧ l.all inP = true ∧ ((anyLg (wayL l c) (wayL l c).length = true ∧ x = rnil ∧ k = 10) ∨
      (anyLg (wayL l c) (wayL l c).length = false ∧ ((l = [] ∧ x = rnil ∧ k = 0) ∨ (l ≠ [] ∧ wayL l c ≠ [] ∧
        ((pat = [] ∧ k = 0 ∧ ∃ id cl, x = .one (.sl id 0 1 (some 1) 2) ∧ n ≤ id ∧ id < n' ∧ m' id = some ⟨[cl, .sc (.bool c)], true⟩ ∧ RPt m' n' (.one cl) l ∧ ∀ j, sid (.one cl) = some j → n ≤ j) ∨
         (pat ≠ [] ∧ PatI pat ∧ (0 ≤ ph ∧ ph ≤ 8388608) ∧ ((dashL pat ph (wayL l c) = none ∧ x = rnil ∧ k = 36) ∨
           ∃ ls, dashL pat ph (wayL l c) = some ls ∧ k = 0 ∧ RowF n m' n' x ls ∧ ls.length ≤ 4096 ∧ ∀ u ∈ ls, u.length < 4294967296)))))))) := by
  cases hr : rightB pat ph
  · exact Or.inl ⟨Or.inl rfl, h.bad (Or.inl hr)⟩
  · cases hi : l.all inP
    · exact Or.inl ⟨Or.inr rfl, h.bad (Or.inr hi)⟩
    · refine Or.inr ⟨rfl, rfl, ?_⟩
      cases hg : anyLg (wayL l c) (wayL l c).length
      · refine Or.inr ⟨rfl, ?_⟩
        by_cases hw : wayL l c = []
        · have hle : l = [] := by
            cases l with
            | nil => rfl
            | cons p t => obtain ⟨t', ht'⟩ := way_head (p := p) (l := t) (c := c); rw [ht'] at hw; cases hw
          exact Or.inl ⟨hle, h.none hr hi hg hw⟩
        · have hlne : l ≠ [] := fun e => hw (by rw [e]; unfold wayL; split <;> rfl)
          refine Or.inr ⟨hlne, hw, ?_⟩
          by_cases hpe : pat = []
          · exact Or.inl ⟨hpe, h.whole hr hi hg hw hpe⟩
          · obtain ⟨hP, hp0, hp1⟩ := right_pat hr hpe
            refine Or.inr ⟨hpe, hP, ⟨hp0, hp1⟩, ?_⟩
            have hwm := way_len l c
            cases hd : dashL pat ph (wayL l c) with
            | none => exact Or.inl ⟨rfl, h.many hr hi hg hw hpe hd⟩
            | some ls =>
              obtain ⟨hk, oc, pid, rfl, q1, q2⟩ := h.some hr hi hg hw hpe ls hd
              have hline : ∀ i a b, (wayL l c)[i]? = some a → (wayL l c)[i + 1]? = some b → 0 ≤ lenQ a b ∧ (∀ t, 0 ≤ t → t ≤ lenQ a b → 0 < lenQ a b → (fun _ : Pt => True) (placeP a.x a.y b.x b.y t (lenQ a b))) ∧ (fun _ : Pt => True) b := fun i a b ha hb =>
                ⟨(lenQ_bd (lg_at hg ha hb)).1, fun _ _ _ _ => trivial, trivial⟩
              obtain ⟨g1, g2, g3⟩ := dashL_J (P := fun _ => True) (J := GoodL fun _ => True) good_add good_new hP hp0 (by
                unfold pen0
                simp only
                split
                · intro u hu
                  rw [List.mem_map] at hu
                  obtain ⟨q, hq, rfl⟩ := hu
                  exact ⟨by simp, fun _ _ => trivial⟩
                · intro u hu; cases hu) hw hline hd
              exact Or.inr ⟨ls, rfl, hk, q2.rowF q1, g2, fun u hu => by rcases g3 u hu with q | q <;> omega⟩
      · exact Or.inl ⟨rfl, h.long hr hi hg⟩

/- Rows of the call's own that grow. Conditions: those that each theorem names. -/
open Go Go.Proofs
set_option linter.unusedSimpArgs false
set_option linter.unusedVariables false

/-- A row of the call's own, grown or just built. -/
def OG {α : Type} (enc : α → List Cell) (sz base : Nat) (m : Mem) (n : Nat) (c : Cell) (l : List α) : Prop :=
  ∃ id cap, c = .sl id 0 l.length cap sz ∧ base ≤ id ∧ id < n ∧ m id = some ⟨l.flatMap enc, true⟩ ∧ (cap = none ∨ cap = some l.length)
theorem OG.rl {α : Type} {enc : α → List Cell} {sz : Nat} (hsz : ∀ x, (enc x).length = sz) {base : Nat} {m : Mem} {n : Nat} {c : Cell} {l : List α} (h : OG enc sz base m n c l) : RL enc sz m n (.one c) l := by
  obtain ⟨id, cap, rfl, h1, h2, h3, h4⟩ := h
  refine Or.inr ⟨id, 0, cap, rfl, h2, ?_⟩
  have hl := flatMap_len enc sz hsz l
  rw [rd_of h3]
  unfold rdB
  rw [if_pos (by rw [hl]; omega), List.drop_zero, ← hl, List.take_length]
theorem OG.keep {α : Type} {enc : α → List Cell} {sz base : Nat} {m m' : Mem} {n n' : Nat} {c : Cell} {l : List α} (h : OG enc sz base m n c l) (hn : n ≤ n') (hm : ∀ id, base ≤ id → id < n → m' id = m id) : OG enc sz base m' n' c l := by
  obtain ⟨id, cap, rfl, h1, h2, h3, h4⟩ := h
  exact ⟨id, cap, rfl, h1, by omega, by rw [hm id h1 h2]; exact h3, h4⟩
theorem K_pushG {T : Nat → Option SFun} {α : Type} {enc : α → List Cell} {sz : Nat} (hsz : ∀ x, (enc x).length = sz) {base n0 n : Nat} {m0 m : Mem} {c0 : Cell} {l : List α} {p : α} {j by' : Nat} {o : Bool} {d : Option Nat} {os : List SOper} {e : Nat → Reg} {k : Kt}
    (ho : OG enc sz base m0 n0 c0 l) (hn : n0 ≤ n) (hm : ∀ id, sid (.one c0) = some id → m id = m0 id) (hj : m j = some ⟨enc p, o⟩) (hsm : l.length + 1 ≤ 4294967296) (hbase : base ≤ n)
    (next : ∀ c m', OG enc sz base m' (n + 1) c (l ++ [p]) → (∀ id, id < n → sid (.one c0) ≠ some id → m' id = m id) → RK T os (putE e d (.one c)) m' (n + 1) k) :
    ThenK T d os e k (evApp m n sz by' (.one c0) (.one (.sl j 0 1 (some 1) sz))) := by
  have hx : newsOf m sz (.one (.sl j 0 1 (some 1) sz)) = some (1, enc p) := by
    simp only [newsOf, if_true]
    rw [rd_of hj]
    simp [rdB, hsz]
    exact List.take_of_length_le (by rw [hsz]; exact Nat.le_refl _)
  obtain ⟨id, cap, rfl, h2, h3, h4, h7⟩ := ho
  have h5 : m id = some ⟨l.flatMap enc, true⟩ := by rw [hm id rfl]; exact h4
  have hl := flatMap_len enc sz hsz l
  have h6 : rd m id 0 (l.length * sz) = some (l.flatMap enc) := by
    rw [rd_of h5]
    unfold rdB
    rw [if_pos (by rw [hl]; omega), List.drop_zero, ← hl, List.take_length]
  have fin : ∀ m', m' n = some ⟨l.flatMap enc ++ enc p, true⟩ → OG enc sz base m' (n + 1) (.sl n 0 (l.length + 1) none sz) (l ++ [p]) := fun m' h => ⟨n, none, by simp, hbase, by omega, by rw [h]; simp, Or.inl rfl⟩
  rcases h7 with rfl | rfl
  · simp only [evApp, hx, if_true, h5, h6, Option.map_some, true_and, if_pos hsm]
    exact next _ _ (fin _ (upd_same _ _ _)) (fun i hi hs => by rw [upd_ne _ _ (by omega), upd_ne _ _ (fun e => hs (by rw [e]; rfl))])
  · simp only [evApp, hx, true_and, if_pos hsm]
    rw [if_neg (by omega)]
    simp only [h6, Option.map_some]
    exact next _ _ (fin _ (upd_same _ _ _)) (fun i hi hs => upd_ne _ _ (by omega))

/- Patterns told otherwise: what is compared, what is put together. Conditions: those that each theorem names. -/
open Go Go.Proofs
set_option linter.unusedSimpArgs false
set_option linter.unusedVariables false

theorem RowF.frz {base : Nat} {m : Mem} {n : Nat} {x : Reg} {ls : List (List Pt)} (h : RowF base m n x ls) : RowF base (frz m) n x ls := by
  rcases h with h | ⟨id, cap, b, e1, e2, e3, e4, e5⟩
  · exact Or.inl h
  · refine Or.inr ⟨id, cap, ⟨b.cells, false⟩, e1, e2, e3, by rw [frz_at, e4]; rfl, fun i l hi => ?_⟩
    obtain ⟨c, k1, k2, k3, k4⟩ := e5 i l hi
    exact ⟨c, k1, k2, k3.frz, k4⟩
theorem OG.of_nil {α : Type} {enc : α → List Cell} {sz n : Nat} {m : Mem} : OG enc sz n (upd m n (some ⟨[], true⟩)) (n + 1) (.sl n 0 0 (some 0) sz) [] :=
  ⟨n, some 0, rfl, Nat.le_refl _, Nat.lt_succ_self _, upd_same _ _ _, Or.inr rfl⟩
/-- A row that is put behind a row of the call's own. -/
theorem K_cat {T : Nat → Option SFun} {α : Type} {enc : α → List Cell} {sz : Nat} (hsz : ∀ x, (enc x).length = sz) {base n0 n nx : Nat} {m0 m : Mem} {c0 : Cell} {x : Reg} {l xs : List α} {by' : Nat} {d : Option Nat} {os : List SOper} {e : Nat → Reg} {k : Kt}
    (ho : OG enc sz base m0 n0 c0 l) (hn : n0 ≤ n) (hm : ∀ id, sid (.one c0) = some id → m id = m0 id) (hx : RL enc sz m nx x xs) (hsm : l.length + xs.length ≤ 4294967296) (hbase : base ≤ n)
    (next : ∀ c m' n', n ≤ n' → OG enc sz base m' n' c (l ++ xs) → (∀ id, id < n → sid (.one c0) ≠ some id → m' id = m id) → RK T os (putE e d (.one c)) m' n' k) :
    ThenK T d os e k (evApp m n sz by' (.one c0) x) := by
  have hnews : newsOf m sz x = some (xs.length, xs.flatMap enc) := by
    rcases hx with ⟨rfl, rfl⟩ | ⟨ix, off, cap, rfl, _, h3⟩
    · rfl
    · simp only [newsOf, if_true, h3, Option.map_some]
  obtain ⟨id, cap, rfl, h2, h3, h4, h7⟩ := ho
  have h5 : m id = some ⟨l.flatMap enc, true⟩ := by rw [hm id rfl]; exact h4
  have hl := flatMap_len enc sz hsz l
  have h6 : rd m id 0 (l.length * sz) = some (l.flatMap enc) := by
    rw [rd_of h5]
    unfold rdB
    rw [if_pos (by rw [hl]; omega), List.drop_zero, ← hl, List.take_length]
  have fin : ∀ m', m' n = some ⟨l.flatMap enc ++ xs.flatMap enc, true⟩ → OG enc sz base m' (n + 1) (.sl n 0 (l.length + xs.length) none sz) (l ++ xs) := fun m' h => ⟨n, none, by simp, hbase, by omega, by rw [h]; simp, Or.inl rfl⟩
  rcases h7 with rfl | rfl
  · simp only [evApp, hnews, if_true, h5, h6, Option.map_some, true_and, if_pos hsm]
    exact next _ _ _ (by omega) (fin _ (upd_same _ _ _)) (fun i hi hs => by rw [upd_ne _ _ (by omega), upd_ne _ _ (fun e => hs (by rw [e]; rfl))])
  · simp only [evApp, hnews, true_and, if_pos hsm]
    by_cases hx0 : xs = []
    · subst hx0
      simp only [List.length_nil, Nat.add_zero, Nat.le_refl, if_true]
      exact next _ _ _ (Nat.le_refl _) ⟨id, some l.length, by simp, h2, by omega, by simpa using h5, Or.inr (by simp)⟩ (fun i _ _ => rfl)
    · have hpos := List.length_pos_iff.2 hx0
      rw [if_neg (by omega)]
      simp only [h6, Option.map_some]
      exact next _ _ _ (by omega) (fin _ (upd_same _ _ _)) (fun i hi hs => upd_ne _ _ (by omega))
theorem encI_map (l : List Int) : l.flatMap encI = l.map I := by
  induction l with
  | nil => rfl
  | cons x l ih => rw [List.flatMap_cons, ih]; rfl
theorem RIn.drop {m : Mem} {n id off : Nat} {cap : Option Nat} {l : List Int} (k : Nat) {cap' : Option Nat} (h : RIn m n (.one (.sl id off l.length cap 1)) l) (hk : k ≤ l.length) : RIn m n (.one (.sl id (off + k * 1) (l.length - k) cap' 1)) (l.drop k) := by
  rcases h with ⟨h, _⟩ | ⟨id', off', c', h1, h2, h3⟩
  · cases h
  · simp only [Reg.one.injEq, Cell.sl.injEq, true_and, and_true] at h1
    obtain ⟨rfl, rfl, _⟩ := h1
    refine Or.inr ⟨id, off + k * 1, cap', by rw [List.length_drop], h2, ?_⟩
    have hl := flatMap_len encI 1 ci1 l
    unfold rd at h3 ⊢
    split at h3
    case h_2 => cases h3
    rename_i b hb
    split at h3
    case isFalse => cases h3
    rename_i hle
    rw [List.length_drop, if_pos (by omega), ← List.drop_drop]
    simp only [Option.some.injEq] at h3 ⊢
    have e1 : (l.flatMap encI).drop k = (l.drop k).flatMap encI := by
      rw [encI_map, encI_map, List.map_drop]
    rw [← e1, ← h3, List.drop_take]
    congr 2 <;> omega
theorem RIn.take {m : Mem} {n id off : Nat} {cap : Option Nat} {l : List Int} (k : Nat) {cap' : Option Nat} (h : RIn m n (.one (.sl id off l.length cap 1)) l) (hk : k ≤ l.length) : RIn m n (.one (.sl id off k cap' 1)) (l.take k) := by
  rcases h with ⟨h, _⟩ | ⟨id', off', c', h1, h2, h3⟩
  · cases h
  · simp only [Reg.one.injEq, Cell.sl.injEq, true_and, and_true] at h1
    obtain ⟨rfl, rfl, _⟩ := h1
    have hlt : (l.take k).length = k := by rw [List.length_take]; omega
    refine Or.inr ⟨id, off, cap', by rw [hlt], h2, ?_⟩
    unfold rd at h3 ⊢
    split at h3
    case h_2 => cases h3
    rename_i b hb
    split at h3
    case isFalse => cases h3
    rename_i hle
    rw [hlt, if_pos (by omega)]
    simp only [Option.some.injEq] at h3 ⊢
    have e1 : (l.flatMap encI).take k = (l.take k).flatMap encI := by
      rw [encI_map, encI_map, List.map_take]
    rw [← e1, ← h3, List.take_take]
    congr 1; omega
set_option maxHeartbeats 4000000 in
theorem v_alike {base base2 : Nat} {x y : Reg} {ls : List (List Pt)} {m : Mem} {n : Nat} (hx : RowF base m n x ls) (hy : RowF base2 m n y ls) (h1 : ls.length ≤ 4096) (h2 : ∀ u ∈ ls, u.length < 4294967296) : callF TA 21 [x, y] m n = some (RB true) := by
  refine callF_of (Fn_ofK (fn := F21) rfl (by simp [F21]) ?_)
  have hlx := hx.len
  have hly := hy.len
  try simp only [r21_0, r21_1, r21_2, r21_3, r21_4, r21_5, r21_6, r21_7, r21_8, r21_9, c21, F21, hlx, hly, go_sem, Int.reduceTMod, Int.reduceTDiv, Int.reduceDiv, Int.reduceMod, Int.reduceAdd, Int.reduceSub, Int.reduceMul, Int.reduceNeg, Int.reducePow, Int.reduceEq, ↓reduceIte, Nat.reduceEqDiff, Nat.reduceAdd, Nat.reduceMul, Nat.reduceLeDiff, Nat.reduceSub, Nat.reduceLT, Int.reduceToNat, Int.reduceLT, Int.reduceLE, reduceCtorEq]
  repeat' ((first | refine FK_split (fun h_ => ?_) (fun h_ => ?_) | refine GK_split (fun h_ => ?_) (fun h_ => ?_) | refine ite_both (fun h_ => ?_) (fun h_ => ?_)) <;> (try simp only [decide_eq_true_eq, decide_eq_false_iff_not, Bool.not_true, Bool.not_false, Bool.not_eq_true', Bool.not_eq_false', Bool.not_eq_eq_eq_not, Decidable.not_not] at h_) <;> (try simp only [r21_0, r21_1, r21_2, r21_3, r21_4, r21_5, r21_6, r21_7, r21_8, r21_9, c21, F21, hlx, hly, h_, go_sem, Int.reduceTMod, Int.reduceTDiv, Int.reduceDiv, Int.reduceMod, Int.reduceAdd, Int.reduceSub, Int.reduceMul, Int.reduceNeg, Int.reducePow, Int.reduceEq, ↓reduceIte, Nat.reduceEqDiff, Nat.reduceAdd, Nat.reduceMul, Nat.reduceLeDiff, Nat.reduceSub, Nat.reduceLT, Int.reduceToNat, Int.reduceLT, Int.reduceLE, reduceCtorEq]))
  refine XK_iter (inv := fun i s => s.e 13 = RI i ∧ s.e 12 = RI ls.length ∧ s.e 0 = x ∧ s.e 1 = y ∧ n ≤ s.n ∧ ∀ id, id < n → s.m id = m id) ls.length
    (fun L _ => ⟨fun i hi' s hs' next => ?_, fun s hs' => ?_⟩) 0 (by omega) _ ⟨?_, ?_, ?_, ?_, Nat.le_refl _, fun _ _ => rfl⟩
  · obtain ⟨e, M, N⟩ := s
    obtain ⟨q13, q12, q0, q1, qn, qm⟩ := hs'
    simp only at q13 q12 q0 q1 qn qm
    have hp5 : ls[i]? = some ls[i] := List.getElem?_eq_getElem hi'
    have hul := h2 ls[i] (List.getElem_mem hi')
    rcases hx.keep qn (fun id _ b => qm id b) with ⟨_, e0⟩ | ⟨id, cap, b, ex, _, hid, hbb, hel⟩
    · rw [e0] at hi'; simp at hi'
    rcases hy.keep qn (fun id _ b => qm id b) with ⟨_, e0⟩ | ⟨id2, cap2, b2, ey, _, hid2, hbb2, hel2⟩
    · rw [e0] at hi'; simp at hi'
    obtain ⟨d, k1, k2, k3, k4⟩ := hel i _ hp5
    obtain ⟨d2, t1, t2, t3, t4⟩ := hel2 i _ hp5
    generalize ls[i] = lp at *
    rw [ex] at q0
    rw [ey] at q1
    have c2 : ((i : Int) < (ls.length : Int)) = True := eq_true (by omega)
    have c3 : (0 ≤ (i : Int)) = True := eq_true (by omega)
    have c7 : IntKind.i64.wrap ((i : Int) + 1) = ((i + 1 : Nat) : Int) := wr_nat (by omega)
    try simp only [r21_0, r21_1, r21_2, r21_3, r21_4, r21_5, r21_6, r21_7, r21_8, r21_9, c21, F21, l21_0, q13, q12, q0, q1, c2, c3, hbb, k1, hbb2, t1, Int.toNat_natCast, Nat.mul_one, go_sem, Int.reduceTMod, Int.reduceTDiv, Int.reduceDiv, Int.reduceMod, Int.reduceAdd, Int.reduceSub, Int.reduceMul, Int.reduceNeg, Int.reducePow, Int.reduceEq, ↓reduceIte, Nat.reduceEqDiff, Nat.reduceAdd, Nat.reduceMul, Nat.reduceLeDiff, Nat.reduceSub, Nat.reduceLT, Int.reduceToNat, Int.reduceLT, Int.reduceLE, reduceCtorEq]
    repeat' ((first | refine FK_split (fun h_ => ?_) (fun h_ => ?_) | refine GK_split (fun h_ => ?_) (fun h_ => ?_) | refine ite_both (fun h_ => ?_) (fun h_ => ?_)) <;> (try simp only [decide_eq_true_eq, decide_eq_false_iff_not, Bool.not_true, Bool.not_false, Bool.not_eq_true', Bool.not_eq_false', Bool.not_eq_eq_eq_not, Decidable.not_not] at h_) <;> (try simp only [r21_0, r21_1, r21_2, r21_3, r21_4, r21_5, r21_6, r21_7, r21_8, r21_9, c21, F21, l21_0, q13, q12, q0, q1, c2, c3, hbb, k1, hbb2, t1, Int.toNat_natCast, Nat.mul_one, h_, go_sem, Int.reduceTMod, Int.reduceTDiv, Int.reduceDiv, Int.reduceMod, Int.reduceAdd, Int.reduceSub, Int.reduceMul, Int.reduceNeg, Int.reducePow, Int.reduceEq, ↓reduceIte, Nat.reduceEqDiff, Nat.reduceAdd, Nat.reduceMul, Nat.reduceLeDiff, Nat.reduceSub, Nat.reduceLT, Int.reduceToNat, Int.reduceLT, Int.reduceLE, reduceCtorEq]))
    refine RK_callk ?_
    refine (w_refs _ lp _ _ t3.frz hul).mono ?_
    rintro r1 m1 n1 ⟨ho1, hn1⟩
    obtain ⟨M1, hM1⟩ : ∃ M1, M1 = unfrz M N m1 := ⟨_, rfl⟩
    rw [← hM1, show max N n1 = n1 by omega]
    have hf1 : ∀ id, id < N → M1 id = M id := fun id hid => by rw [hM1, unfrz_at, if_pos hid]
    have e1 : RPt M1 n1 (.one d) lp := k3.keep hn1 hf1
    have e2 : RPt M1 n1 r1 lp := (ho1.rl cs2).keep' (Nat.le_refl _) (fun id hid => by rw [hM1, unfrz_at, if_neg (by have := ho1.sidge hid; omega)])
    have v4 := v_same (.one d) r1 lp lp (frz M1) n1 e1.frz e2.frz hul
    rw [decide_eq_true rfl] at v4
    try simp only [r21_0, r21_1, r21_2, r21_3, r21_4, r21_5, r21_6, r21_7, r21_8, r21_9, c21, F21, v4, q13, c7, go_sem, Int.reduceTMod, Int.reduceTDiv, Int.reduceDiv, Int.reduceMod, Int.reduceAdd, Int.reduceSub, Int.reduceMul, Int.reduceNeg, Int.reducePow, Int.reduceEq, ↓reduceIte, Nat.reduceEqDiff, Nat.reduceAdd, Nat.reduceMul, Nat.reduceLeDiff, Nat.reduceSub, Nat.reduceLT, Int.reduceToNat, Int.reduceLT, Int.reduceLE, reduceCtorEq]
    repeat' ((first | refine FK_split (fun h_ => ?_) (fun h_ => ?_) | refine GK_split (fun h_ => ?_) (fun h_ => ?_) | refine ite_both (fun h_ => ?_) (fun h_ => ?_)) <;> (try simp only [decide_eq_true_eq, decide_eq_false_iff_not, Bool.not_true, Bool.not_false, Bool.not_eq_true', Bool.not_eq_false', Bool.not_eq_eq_eq_not, Decidable.not_not] at h_) <;> (try simp only [r21_0, r21_1, r21_2, r21_3, r21_4, r21_5, r21_6, r21_7, r21_8, r21_9, c21, F21, v4, q13, c7, h_, go_sem, Int.reduceTMod, Int.reduceTDiv, Int.reduceDiv, Int.reduceMod, Int.reduceAdd, Int.reduceSub, Int.reduceMul, Int.reduceNeg, Int.reducePow, Int.reduceEq, ↓reduceIte, Nat.reduceEqDiff, Nat.reduceAdd, Nat.reduceMul, Nat.reduceLeDiff, Nat.reduceSub, Nat.reduceLT, Int.reduceToNat, Int.reduceLT, Int.reduceLE, reduceCtorEq]))
    refine next _ ⟨?_, ?_, ?_, ?_, by simp only; omega, fun id hid => by simp only; rw [hf1 id (by omega)]; exact qm id hid⟩
    · simp only [go_sem, Int.reduceTMod, Int.reduceTDiv, Int.reduceDiv, Int.reduceMod, Int.reduceAdd, Int.reduceSub, Int.reduceMul, Int.reduceNeg, Int.reducePow, Int.reduceEq, ↓reduceIte, Nat.reduceEqDiff, Nat.reduceAdd, Nat.reduceMul, Nat.reduceLeDiff, Nat.reduceSub, Nat.reduceLT, Int.reduceToNat, Int.reduceLT, Int.reduceLE, reduceCtorEq]
    · simp only [q12, go_sem, Int.reduceTMod, Int.reduceTDiv, Int.reduceDiv, Int.reduceMod, Int.reduceAdd, Int.reduceSub, Int.reduceMul, Int.reduceNeg, Int.reducePow, Int.reduceEq, ↓reduceIte, Nat.reduceEqDiff, Nat.reduceAdd, Nat.reduceMul, Nat.reduceLeDiff, Nat.reduceSub, Nat.reduceLT, Int.reduceToNat, Int.reduceLT, Int.reduceLE, reduceCtorEq]
    · simp only [q0, ex, go_sem, Int.reduceTMod, Int.reduceTDiv, Int.reduceDiv, Int.reduceMod, Int.reduceAdd, Int.reduceSub, Int.reduceMul, Int.reduceNeg, Int.reducePow, Int.reduceEq, ↓reduceIte, Nat.reduceEqDiff, Nat.reduceAdd, Nat.reduceMul, Nat.reduceLeDiff, Nat.reduceSub, Nat.reduceLT, Int.reduceToNat, Int.reduceLT, Int.reduceLE, reduceCtorEq]
    · simp only [q1, ey, go_sem, Int.reduceTMod, Int.reduceTDiv, Int.reduceDiv, Int.reduceMod, Int.reduceAdd, Int.reduceSub, Int.reduceMul, Int.reduceNeg, Int.reducePow, Int.reduceEq, ↓reduceIte, Nat.reduceEqDiff, Nat.reduceAdd, Nat.reduceMul, Nat.reduceLeDiff, Nat.reduceSub, Nat.reduceLT, Int.reduceToNat, Int.reduceLT, Int.reduceLE, reduceCtorEq]
  · obtain ⟨e, M, N⟩ := s
    obtain ⟨q13, q12, q0, q1, qn, qm⟩ := hs'
    simp only at q13 q12 q0 q1 qn qm
    have c2 : ((ls.length : Int) < (ls.length : Int)) = False := eq_false (by omega)
    try simp only [r21_0, r21_1, r21_2, r21_3, r21_4, r21_5, r21_6, r21_7, r21_8, r21_9, c21, F21, l21_0, q13, q12, c2, go_sem, Int.reduceTMod, Int.reduceTDiv, Int.reduceDiv, Int.reduceMod, Int.reduceAdd, Int.reduceSub, Int.reduceMul, Int.reduceNeg, Int.reducePow, Int.reduceEq, ↓reduceIte, Nat.reduceEqDiff, Nat.reduceAdd, Nat.reduceMul, Nat.reduceLeDiff, Nat.reduceSub, Nat.reduceLT, Int.reduceToNat, Int.reduceLT, Int.reduceLE, reduceCtorEq]
    repeat' ((first | refine FK_split (fun h_ => ?_) (fun h_ => ?_) | refine GK_split (fun h_ => ?_) (fun h_ => ?_) | refine ite_both (fun h_ => ?_) (fun h_ => ?_)) <;> (try simp only [decide_eq_true_eq, decide_eq_false_iff_not, Bool.not_true, Bool.not_false, Bool.not_eq_true', Bool.not_eq_false', Bool.not_eq_eq_eq_not, Decidable.not_not] at h_) <;> (try simp only [r21_0, r21_1, r21_2, r21_3, r21_4, r21_5, r21_6, r21_7, r21_8, r21_9, c21, F21, l21_0, q13, q12, c2, h_, go_sem, Int.reduceTMod, Int.reduceTDiv, Int.reduceDiv, Int.reduceMod, Int.reduceAdd, Int.reduceSub, Int.reduceMul, Int.reduceNeg, Int.reducePow, Int.reduceEq, ↓reduceIte, Nat.reduceEqDiff, Nat.reduceAdd, Nat.reduceMul, Nat.reduceLeDiff, Nat.reduceSub, Nat.reduceLT, Int.reduceToNat, Int.reduceLT, Int.reduceLE, reduceCtorEq]))
  · simp only [go_sem, Int.reduceTMod, Int.reduceTDiv, Int.reduceDiv, Int.reduceMod, Int.reduceAdd, Int.reduceSub, Int.reduceMul, Int.reduceNeg, Int.reducePow, Int.reduceEq, ↓reduceIte, Nat.reduceEqDiff, Nat.reduceAdd, Nat.reduceMul, Nat.reduceLeDiff, Nat.reduceSub, Nat.reduceLT, Int.reduceToNat, Int.reduceLT, Int.reduceLE, reduceCtorEq]
  · simp only [go_sem, Int.reduceTMod, Int.reduceTDiv, Int.reduceDiv, Int.reduceMod, Int.reduceAdd, Int.reduceSub, Int.reduceMul, Int.reduceNeg, Int.reducePow, Int.reduceEq, ↓reduceIte, Nat.reduceEqDiff, Nat.reduceAdd, Nat.reduceMul, Nat.reduceLeDiff, Nat.reduceSub, Nat.reduceLT, Int.reduceToNat, Int.reduceLT, Int.reduceLE, reduceCtorEq]
  · simp only [go_sem, Int.reduceTMod, Int.reduceTDiv, Int.reduceDiv, Int.reduceMod, Int.reduceAdd, Int.reduceSub, Int.reduceMul, Int.reduceNeg, Int.reducePow, Int.reduceEq, ↓reduceIte, Nat.reduceEqDiff, Nat.reduceAdd, Nat.reduceMul, Nat.reduceLeDiff, Nat.reduceSub, Nat.reduceLT, Int.reduceToNat, Int.reduceLT, Int.reduceLE, reduceCtorEq]
  · simp only [go_sem, Int.reduceTMod, Int.reduceTDiv, Int.reduceDiv, Int.reduceMod, Int.reduceAdd, Int.reduceSub, Int.reduceMul, Int.reduceNeg, Int.reducePow, Int.reduceEq, ↓reduceIte, Nat.reduceEqDiff, Nat.reduceAdd, Nat.reduceMul, Nat.reduceLeDiff, Nat.reduceSub, Nat.reduceLT, Int.reduceToNat, Int.reduceLT, Int.reduceLE, reduceCtorEq]

/- What Dash makes of patterns that leave the same. Conditions: those that each theorem names. -/
open Go Go.Proofs
set_option linter.unusedSimpArgs false
set_option linter.unusedVariables false

/-- Dash's answer, as_ far as_ the law looks at it. -/
noncomputable def dashOut (l : List Pt) (c : Bool) (pat : List Int) (ph : Int) : Int × List (List Pt) :=
  if l.all inP = false then (30, []) else if anyLg (wayL l c) (wayL l c).length = true then (10, []) else if l = [] then (0, []) else
  match dashL pat ph (wayL l c) with
  | none => (36, [])
  | some ls => (0, ls)
theorem dash_out {l : List Pt} {c : Bool} {pat : List Int} {ph : Int} {n : Nat} {x : Reg} {k : Int} {m' : Mem} {n' : Nat} (h : DashQ l (wayL l c) c pat ph n x k m' n') (hl : l.length ≤ 900000) (hr : rightB pat ph = true) (hne : pat ≠ []) :
    k = (dashOut l c pat ph).1 ∧ RowF n m' n' x (dashOut l c pat ph).2 ∧ (dashOut l c pat ph).2.length ≤ 4096 ∧ ∀ u ∈ (dashOut l c pat ph).2, u.length < 4294967296 := by
  unfold dashOut
  rcases dash_cases h hl with ⟨h1 | h1, rfl, rfl⟩ | ⟨_, hi, h1⟩
  · rw [hr] at h1; cases h1
  · rw [if_pos h1]
    exact ⟨rfl, Or.inl ⟨rfl, rfl⟩, by simp, fun u hu => by cases hu⟩
  · rw [if_neg (by rw [hi]; decide)]
    rcases h1 with ⟨hg, rfl, rfl⟩ | ⟨hg, h1⟩
    · rw [if_pos hg]
      exact ⟨rfl, Or.inl ⟨rfl, rfl⟩, by simp, fun u hu => by cases hu⟩
    · rw [if_neg (by rw [hg]; decide)]
      rcases h1 with ⟨hle, rfl, rfl⟩ | ⟨hle, hw, h1⟩
      · rw [if_pos hle]
        exact ⟨rfl, Or.inl ⟨rfl, rfl⟩, by simp, fun u hu => by cases hu⟩
      · rw [if_neg hle]
        rcases h1 with ⟨hp, _⟩ | ⟨_, _, _, h1⟩
        · exact absurd hp hne
        · rcases h1 with ⟨hd, rfl, rfl⟩ | ⟨ls, hd, rfl, q1, q2, q3⟩
          · rw [hd]
            exact ⟨rfl, Or.inl ⟨rfl, rfl⟩, by simp, fun u hu => by cases hu⟩
          · rw [hd]
            exact ⟨rfl, q1, q2, q3⟩
theorem out_same {l : List Pt} {c : Bool} {p1 p2 : List Int} {ph1 ph2 : Int} (h : ∀ way, (WayI way ∨ way.length = 1) → dashL p2 ph2 way = dashL p1 ph1 way) : dashOut l c p2 ph2 = dashOut l c p1 ph1 := by
  unfold dashOut
  by_cases h1 : l.all inP = false
  · rw [if_pos h1, if_pos h1]
  · rw [if_neg h1, if_neg h1]
    by_cases h2 : anyLg (wayL l c) (wayL l c).length = true
    · rw [if_pos h2, if_pos h2]
    · rw [if_neg h2, if_neg h2]
      by_cases h3 : l = []
      · rw [if_pos h3, if_pos h3]
      · have hw : wayL l c ≠ [] := by
          cases l with
          | nil => exact absurd rfl h3
          | cons p t => obtain ⟨t', ht'⟩ := way_head (p := p) (l := t) (c := c); rw [ht']; simp
        have hpos := List.length_pos_iff.2 hw
        rw [if_neg h3, if_neg h3, h]
        by_cases h4 : (wayL l c).length = 1
        · exact Or.inr h4
        · exact Or.inl (way_I (by simpa using h2) (by omega))
theorem right_len {pat : List Int} {ph : Int} (h : rightB pat ph = true) (hne : pat ≠ []) : pat.all okD = true ∧ 0 ≤ ph ∧ ph < pat.sum := by
  unfold rightB at h
  rw [if_neg hne] at h
  split at h
  · simp only [Bool.and_eq_true, decide_eq_true_eq] at h
    exact ⟨h.1, h.2.1, h.2.2⟩
  · cases h
theorem right_of {pat : List Int} {ph : Int} (hl : pat.length = 2 ∨ pat.length = 4 ∨ pat.length = 6 ∨ pat.length = 8) (h1 : pat.all okD = true) (h2 : 0 ≤ ph) (h3 : ph < pat.sum) : rightB pat ph = true := by
  unfold rightB
  rw [if_neg (fun e => by rw [e] at hl; simp at hl), if_pos hl]
  simp only [Bool.and_eq_true, decide_eq_true_eq]
  exact ⟨h1, h2, h3⟩
/-- The pattern told twice over. -/
theorem out_dbl {l : List Pt} {c : Bool} {pat : List Int} {ph : Int} (hr : rightB pat ph = true) (hne : pat ≠ []) (h4 : pat.length ≤ 4) : rightB (pat ++ pat) ph = true ∧ dashOut l c (pat ++ pat) ph = dashOut l c pat ph := by
  obtain ⟨hP, h0, _⟩ := right_pat hr hne
  obtain ⟨a1, a2, a3⟩ := right_len hr hne
  have hev := hP.ev
  have hpo := hP.po
  have hs := (sum_bd pat a1).1
  have hr2 : rightB (pat ++ pat) ph = true := right_of (by rw [List.length_append]; omega) (by rw [List.all_append, a1]; rfl) a2 (by rw [List.sum_append_int]; omega)
  have hP2 := (right_pat hr2 (by simp [hne])).1
  exact ⟨hr2, out_same fun way hw => dash_dbl hP hP2 h0 hw⟩
/-- The pattern begun one pair later. -/
theorem out_rot {l : List Pt} {c : Bool} {a b : Int} {t : List Int} {ph : Int} (ht : t = [] ∨ ∃ c d, t = [c, d]) (hr : rightB (a :: b :: t) ph = true) :
    rightB (t ++ [a, b]) (if ph - a - b < 0 then ph - a - b + (a :: b :: t).sum else ph - a - b) = true ∧ dashOut l c (t ++ [a, b]) (if ph - a - b < 0 then ph - a - b + (a :: b :: t).sum else ph - a - b) = dashOut l c (a :: b :: t) ph := by
  obtain ⟨hP, h0, _⟩ := right_pat hr (by simp)
  obtain ⟨a1, a2, a3⟩ := right_len hr (by simp)
  have e1 : (t ++ [a, b]).sum = (a :: b :: t).sum := by
    rw [List.sum_append_int]
    simp only [List.sum_cons, List.sum_nil]
    omega
  have e2 : (t ++ [a, b]).all okD = true := by
    rw [List.all_append]
    simp only [List.all_cons, List.all_nil, Bool.and_eq_true, Bool.and_true] at a1 ⊢
    exact ⟨a1.2.2, a1.1, a1.2.1⟩
  have ha := hP.bd a (by simp)
  have hb := hP.bd b (by simp)
  have hts : 0 ≤ t.sum := by
    simp only [List.all_cons, Bool.and_eq_true] at a1
    exact (sum_bd t a1.2.2).1
  have e3 : (a :: b :: t).sum = a + (b + t.sum) := by simp only [List.sum_cons]
  have hr2 : rightB (t ++ [a, b]) (if ph - a - b < 0 then ph - a - b + (a :: b :: t).sum else ph - a - b) = true := by
    refine right_of ?_ e2 ?_ ?_
    · rcases ht with rfl | ⟨c, d, rfl⟩ <;> simp
    · split <;> omega
    · rw [e1]; split <;> omega
  have hP2 := (right_pat hr2 (by simp)).1
  exact ⟨hr2, out_same fun way hw => dash_rot ht hP hP2 h0 a3 hw⟩

end Go.Proofs.Ytoakdmjpbachdaa.Sy
