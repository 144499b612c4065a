import Derived.Test.YtoakdmjpbachdaaMgE
/- Ways along subpaths: the functions. Conditions: those that each theorem names. -/
namespace Go.Proofs.Ytoakdmjpbachdaa.Sy
open Go Go.Proofs
set_option linter.unusedSimpArgs false
set_option linter.unusedVariables false
set_option maxRecDepth 20000
attribute [local go_sem] XK_seq XK_block XK_skip XK_exit XK_ret XK_cond XK_reg XK_dreg XK_ureg KN_seq KN_blk KN_lp KN_chk KN_chku KN_top KN_fin KX_seq KX_lp KX_blk KX_chk KX_top KR_seq KR_blk KR_lp KR_chk KR_top KR_fin FK_true FK_false RK_nil RK_mv RK_pick RK_alloc RK_box RK_build RK_bslice RK_load1 RK_loadA RK_store RK_nilchk RK_bin RK_beq RK_eqv RK_eqnil RK_un RK_conv RK_mkfn RK_mkslice RK_slS RK_slA RK_fadr RK_fld RK_iadrA RK_iadrS RK_idxA RK_ext RK_lenC RK_cap RK_app RK_cpy RK_mn RK_mx RK_len RK_carry RK_clr carryR um0 um1 ThenK_some RK_guard GK_tt GK_ff GK_tf GK_ft GK_none QK_some RK_callQ RK_callZ VK_clo RK_callV
  evalOp evO evOs upd_at unfrz_at putE_some putE_none boolOf_b boolOf_tup Option.map_some evRes pack_one pack_two pack_three pack_none List.getD_cons_zero List.getD_cons_succ getD_nil
  Option.some.injEq exists_eq_left' Reg.cs? fillC setL List.set_cons_zero List.set_cons_succ List.length_cons List.length_nil rd_upd rd_updn rdB wr List.drop_zero List.drop_succ_cons List.take_succ_cons List.take_zero List.getElem?_cons_zero List.getElem?_cons_succ
  ix Int.toNat_zero lenO_sl lenO_nil nadd na_eq na_eq' na_lt na_ee na_ll na_ne na_ne' na_tt
attribute [local go_sem] Reg.flat_one Reg.flat_agg Reg.flat_tup flats_nil flats_cons Cell.flat_sc Cell.flat_ptr List.all_cons List.all_nil disOk safeOk safeR decide_eq_true_eq decide_eq_false_iff_not
  List.map_cons List.map_nil List.cons_append List.nil_append List.append_nil evalOp.capsOf Bool.false_bne Bool.bne_false Bool.true_bne Bool.bne_true bne_self_eq_false beq_self_eq_true Bool.not_not Bool.false_and Bool.and_false Bool.true_or Bool.or_true beq_iff_eq eqCells
  Bool.true_beq Bool.false_beq Bool.not_eq_true' Bool.not_eq_eq_eq_not Bool.not_eq_false' and_false false_and frz_at idOf noId Option.isSome_some Bool.and_eq_true
attribute [local go_sem] wr_eq bV_add bV_sub bV_mul bV_eql bV_neq bV_lss bV_leq bV_gtr bV_geq bV_quo bV_rem bV_shr bV_shl uV_not uV_neg wrapU bits_and bits_or bits_xor IntKind.bits Nat.min_eq_left Nat.min_eq_right Nat.min_self
attribute [local go_sem] bne_iff_ne Int.cast_ofNat_Int Nat.zero_add Nat.add_zero and_self and_true true_and ne_eq not_false_eq_true not_true_eq_false decide_true decide_false Bool.false_eq_true Bool.not_true Bool.not_false Bool.true_and Bool.and_true Bool.or_false Bool.false_or Bool.and_self

theorem v_Way1 (x y : Int) (m : Mem) (n : Nat) : callF TA 33 [.agg [I x, I y]] m n = some (RB (!inP ⟨x, y⟩)) := by
  refine callF_of (Fn_ofK (fn := F33) rfl (by simp [F33]) ?_)
  try simp only [r33_0, r33_1, c33, F33, v_PIn, go_sem, Int.reduceTMod, Int.reduceTDiv, Int.reduceDiv, Int.reduceMod, Int.reduceAdd, Int.reduceSub, Int.reduceMul, Int.reduceNeg, Int.reducePow, Int.reduceEq, ↓reduceIte, Nat.reduceEqDiff, Nat.reduceAdd, Nat.reduceMul, Nat.reduceLeDiff, Nat.reduceSub, Nat.reduceLT, Int.reduceToNat, Int.reduceLT, Int.reduceLE, reduceCtorEq]
  repeat' ((first | refine FK_split (fun h_ => ?_) (fun h_ => ?_) | refine GK_split (fun h_ => ?_) (fun h_ => ?_) | refine ite_both (fun h_ => ?_) (fun h_ => ?_)) <;> (try simp only [decide_eq_true_eq, decide_eq_false_iff_not, Bool.not_true, Bool.not_false, Bool.not_eq_true', Bool.not_eq_false', Bool.not_eq_eq_eq_not, Decidable.not_not] at h_) <;> (try simp only [r33_0, r33_1, c33, F33, v_PIn, h_, go_sem, Int.reduceTMod, Int.reduceTDiv, Int.reduceDiv, Int.reduceMod, Int.reduceAdd, Int.reduceSub, Int.reduceMul, Int.reduceNeg, Int.reducePow, Int.reduceEq, ↓reduceIte, Nat.reduceEqDiff, Nat.reduceAdd, Nat.reduceMul, Nat.reduceLeDiff, Nat.reduceSub, Nat.reduceLT, Int.reduceToNat, Int.reduceLT, Int.reduceLE, reduceCtorEq]))
theorem w_rWay (r : Reg) (l : List Pt) (c : Bool) (m : Mem) (n : Nat) (hr : RPt m n r l) (hi : l.all inP = true) (hl : l.length < 4000000000) :
    Fn TA 16 [r, RB c] m n (fun r' m' n' => n ≤ n' ∧ ∃ x, r' = .tup [x, RB (!anyLg (wayL l c) (wayL l c).length)] ∧ (anyLg (wayL l c) (wayL l c).length = true → x = rnil) ∧ (anyLg (wayL l c) (wayL l c).length = false → RPt m' n' x (wayL l c) ∧ ∀ id, sid x = some id → n ≤ id)) := by
  refine Fn_ofK (fn := F16) rfl (by simp [F16]) ?_
  try simp only [r16_0, r16_1, r16_2, r16_3, r16_4, r16_5, r16_7, r16_8, r16_6, r16_9, c16, F16, go_sem, Int.reduceTMod, Int.reduceTDiv, Int.reduceDiv, Int.reduceMod, Int.reduceAdd, Int.reduceSub, Int.reduceMul, Int.reduceNeg, Int.reducePow, Int.reduceEq, ↓reduceIte, Nat.reduceEqDiff, Nat.reduceAdd, Nat.reduceMul, Nat.reduceLeDiff, Nat.reduceSub, Nat.reduceLT, Int.reduceToNat, Int.reduceLT, Int.reduceLE, reduceCtorEq]
  repeat' ((first | refine FK_split (fun h_ => ?_) (fun h_ => ?_) | refine GK_split (fun h_ => ?_) (fun h_ => ?_) | refine ite_both (fun h_ => ?_) (fun h_ => ?_)) <;> (try simp only [decide_eq_true_eq, decide_eq_false_iff_not, Bool.not_true, Bool.not_false, Bool.not_eq_true', Bool.not_eq_false', Bool.not_eq_eq_eq_not, Decidable.not_not] at h_) <;> (try simp only [r16_0, r16_1, r16_2, r16_3, r16_4, r16_5, r16_7, r16_8, r16_6, r16_9, c16, F16, h_, go_sem, Int.reduceTMod, Int.reduceTDiv, Int.reduceDiv, Int.reduceMod, Int.reduceAdd, Int.reduceSub, Int.reduceMul, Int.reduceNeg, Int.reducePow, Int.reduceEq, ↓reduceIte, Nat.reduceEqDiff, Nat.reduceAdd, Nat.reduceMul, Nat.reduceLeDiff, Nat.reduceSub, Nat.reduceLT, Int.reduceToNat, Int.reduceLT, Int.reduceLE, reduceCtorEq]))
  refine RK_callk ?_
  refine (w_Plain r l _ _ hr.frz (by omega)).mono ?_
  rintro r1 m1 n1 ⟨ho, hn1⟩
  obtain ⟨M, hM⟩ : ∃ M, M = unfrz m n m1 := ⟨_, rfl⟩
  rw [← hM, show max n n1 = n1 by omega]
  have ho2 : OPt n M n1 r1 (pln l l.length) := ho.keep (Nat.le_refl _) (fun id h1 h2 => by rw [hM, unfrz_at, if_neg (by omega)])
  have hplen := pln_len l l.length
  have hwall := way_all (c := c) hi
  have fin : ∀ (M : Mem) (N : Nat) (r : Reg), n ≤ N → RPt M N r (wayL l c) → (∀ id, sid r = some id → n ≤ id) → anyLg (wayL l c) (wayL l c).length = false →
      (n ≤ N ∧ ∃ x, Reg.tup [r, RB true] = .tup [x, RB (!anyLg (wayL l c) (wayL l c).length)] ∧ (anyLg (wayL l c) (wayL l c).length = true → x = rnil) ∧ (anyLg (wayL l c) (wayL l c).length = false → RPt M N x (wayL l c) ∧ ∀ id, sid x = some id → n ≤ id)) :=
    fun M N r h1 h2 h3 h4 => ⟨h1, r, by rw [h4]; rfl, fun h => (by rw [h4] at h; cases h), fun _ => ⟨h2, h3⟩⟩
  have finb : ∀ (M : Mem) (N : Nat), n ≤ N → anyLg (wayL l c) (wayL l c).length = true →
      (n ≤ N ∧ ∃ x, Reg.tup [rnil, RB false] = .tup [x, RB (!anyLg (wayL l c) (wayL l c).length)] ∧ (anyLg (wayL l c) (wayL l c).length = true → x = rnil) ∧ (anyLg (wayL l c) (wayL l c).length = false → RPt M N x (wayL l c) ∧ ∀ id, sid x = some id → n ≤ id)) :=
    fun M N h1 h4 => ⟨h1, rnil, by rw [h4]; rfl, fun _ => rfl, fun h => by rw [h4] at h; cases h⟩
  have osid : ∀ {id}, sid r1 = some id → n ≤ id := fun {id} h => by
    rcases ho with ⟨rfl, _⟩ | ⟨id', rfl, h2, _⟩
    · cases h
    · simp only [sid, Option.some.injEq] at h; omega
  have hlen := (ho2.rl cs2).len
  have plain : wayL l c = pln l l.length → ∀ e : Nat → Reg, e 6 = r1 → e 7 = RI 1 → ∀ K : Kt, (∀ s, s.e 6 = r1 → s.m = M → s.n = n1 → anyLg (wayL l c) (wayL l c).length = false → KX TA K 0 s) → (∀ s, s.e 4 = rnil → s.e 5 = RB false → s.m = M → s.n = n1 → anyLg (wayL l c) (wayL l c).length = true → KR TA K s) →
      XK TA (.loop l16_0) ⟨e, M, n1⟩ K := fun hw e e6 e7 K h1 h2 =>
    rway_loop (w := wayL l c) (by rw [hw]; exact ho2.rl cs2) hwall (by rw [hw]; omega) e6 e7 (fun h s a b d => h1 s a b d h) (fun h s a b d f => h2 s a b d f h)
  by_cases g : c = true ∧ 1 < (pln l l.length).length
  · obtain ⟨gc, g1⟩ := g
    subst gc
    have g1' : ((1 : Int) < ((pln l l.length).length : Int)) = True := eq_true (by omega)
    have hf : (pln l l.length)[0]? = some ((pln l l.length)[0]'(by omega)) := List.getElem?_eq_getElem (by omega)
    have hg : (pln l l.length)[(pln l l.length).length - 1]? = some ((pln l l.length)[(pln l l.length).length - 1]'(by omega)) := List.getElem?_eq_getElem (by omega)
    obtain ⟨id, off, cap, hr1, hid, hrd⟩ := (ho2.rl cs2).at cs2 hf
    obtain ⟨id', off', cap', hr1', hid', hrd'⟩ := (ho2.rl cs2).at cs2 hg
    have hr1s := hr1
    rw [hr1] at hr1'
    simp only [Reg.one.injEq, Cell.sl.injEq, true_and] at hr1'
    obtain ⟨rfl, rfl, rfl, _⟩ := hr1'
    have c5 : IntKind.i64.wrap (((pln l l.length).length : Int) - 1) = (((pln l l.length).length - 1 : Nat) : Int) := (wr_eq (by omega) (by omega)).trans (by omega)
    have c6 : ((((pln l l.length).length - 1 : Nat) : Int) < ((pln l l.length).length : Int)) = True := eq_true (by omega)
    have c8 : (0 ≤ (((pln l l.length).length - 1 : Nat) : Int)) = True := eq_true (by omega)
    have c9 : ((0 : Int) < ((pln l l.length).length : Int)) = True := eq_true (by omega)
    rw [Nat.zero_mul, Nat.add_zero] at hrd
    have ht1 : (pln l l.length).take 1 = [(pln l l.length)[0]'(by omega)] := by
      rw [show (1 : Nat) = 0 + 1 from rfl, List.take_add_one, hf]; rfl
    have hwd : wayL l true = if (pln l l.length)[(pln l l.length).length - 1]? ≠ (pln l l.length)[0]? then pln l l.length ++ (pln l l.length).take 1 else pln l l.length := by
      unfold wayL
      by_cases e : (pln l l.length)[(pln l l.length).length - 1]? ≠ (pln l l.length)[0]?
      · rw [if_pos ⟨rfl, g1, e⟩, if_pos e]
      · rw [if_neg (fun h => e h.2.2), if_neg e]
    rw [hf, hg, ht1] at hwd
    generalize ((pln l l.length)[0]'(by omega)) = u at *
    generalize ((pln l l.length)[(pln l l.length).length - 1]'(by omega)) = v at *
    by_cases e : v = u
    · have heb := pt_eb e
      rw [if_neg (by simp [e])] at hwd
      try simp only [r16_0, r16_1, r16_2, r16_3, r16_4, r16_5, r16_7, r16_8, r16_6, r16_9, c16, F16, hr1, hlen, g1', c5, c6, c8, c9, hrd, hrd', heb, Int.toNat_natCast, Nat.zero_mul, Nat.add_zero, Int.toNat_zero, Int.reduceToNat, go_sem, Int.reduceTMod, Int.reduceTDiv, Int.reduceDiv, Int.reduceMod, Int.reduceAdd, Int.reduceSub, Int.reduceMul, Int.reduceNeg, Int.reducePow, Int.reduceEq, ↓reduceIte, Nat.reduceEqDiff, Nat.reduceAdd, Nat.reduceMul, Nat.reduceLeDiff, Nat.reduceSub, Nat.reduceLT, Int.reduceToNat, Int.reduceLT, Int.reduceLE, reduceCtorEq]
      repeat' ((first | refine FK_split (fun h_ => ?_) (fun h_ => ?_) | refine GK_split (fun h_ => ?_) (fun h_ => ?_) | refine ite_both (fun h_ => ?_) (fun h_ => ?_)) <;> (try simp only [decide_eq_true_eq, decide_eq_false_iff_not, Bool.not_true, Bool.not_false, Bool.not_eq_true', Bool.not_eq_false', Bool.not_eq_eq_eq_not, Decidable.not_not] at h_) <;> (try simp only [r16_0, r16_1, r16_2, r16_3, r16_4, r16_5, r16_7, r16_8, r16_6, r16_9, c16, F16, hr1, hlen, g1', c5, c6, c8, c9, hrd, hrd', heb, Int.toNat_natCast, Nat.zero_mul, Nat.add_zero, Int.toNat_zero, Int.reduceToNat, h_, go_sem, Int.reduceTMod, Int.reduceTDiv, Int.reduceDiv, Int.reduceMod, Int.reduceAdd, Int.reduceSub, Int.reduceMul, Int.reduceNeg, Int.reducePow, Int.reduceEq, ↓reduceIte, Nat.reduceEqDiff, Nat.reduceAdd, Nat.reduceMul, Nat.reduceLeDiff, Nat.reduceSub, Nat.reduceLT, Int.reduceToNat, Int.reduceLT, Int.reduceLE, reduceCtorEq]))
      refine plain hwd _ ?_ ?_ _ (fun s a b d f => ?_) (fun s a a' b d f => ?_)
      · simp only [hr1, go_sem, Int.reduceTMod, Int.reduceTDiv, Int.reduceDiv, Int.reduceMod, Int.reduceAdd, Int.reduceSub, Int.reduceMul, Int.reduceNeg, Int.reducePow, Int.reduceEq, ↓reduceIte, Nat.reduceEqDiff, Nat.reduceAdd, Nat.reduceMul, Nat.reduceLeDiff, Nat.reduceSub, Nat.reduceLT, Int.reduceToNat, Int.reduceLT, Int.reduceLE, reduceCtorEq]
      · simp only [go_sem, Int.reduceTMod, Int.reduceTDiv, Int.reduceDiv, Int.reduceMod, Int.reduceAdd, Int.reduceSub, Int.reduceMul, Int.reduceNeg, Int.reducePow, Int.reduceEq, ↓reduceIte, Nat.reduceEqDiff, Nat.reduceAdd, Nat.reduceMul, Nat.reduceLeDiff, Nat.reduceSub, Nat.reduceLT, Int.reduceToNat, Int.reduceLT, Int.reduceLE, reduceCtorEq]
      · skip
        try simp only [r16_0, r16_1, r16_2, r16_3, r16_4, r16_5, r16_7, r16_8, r16_6, r16_9, c16, F16, a, go_sem, Int.reduceTMod, Int.reduceTDiv, Int.reduceDiv, Int.reduceMod, Int.reduceAdd, Int.reduceSub, Int.reduceMul, Int.reduceNeg, Int.reducePow, Int.reduceEq, ↓reduceIte, Nat.reduceEqDiff, Nat.reduceAdd, Nat.reduceMul, Nat.reduceLeDiff, Nat.reduceSub, Nat.reduceLT, Int.reduceToNat, Int.reduceLT, Int.reduceLE, reduceCtorEq]
        repeat' ((first | refine FK_split (fun h_ => ?_) (fun h_ => ?_) | refine GK_split (fun h_ => ?_) (fun h_ => ?_) | refine ite_both (fun h_ => ?_) (fun h_ => ?_)) <;> (try simp only [decide_eq_true_eq, decide_eq_false_iff_not, Bool.not_true, Bool.not_false, Bool.not_eq_true', Bool.not_eq_false', Bool.not_eq_eq_eq_not, Decidable.not_not] at h_) <;> (try simp only [r16_0, r16_1, r16_2, r16_3, r16_4, r16_5, r16_7, r16_8, r16_6, r16_9, c16, F16, a, h_, go_sem, Int.reduceTMod, Int.reduceTDiv, Int.reduceDiv, Int.reduceMod, Int.reduceAdd, Int.reduceSub, Int.reduceMul, Int.reduceNeg, Int.reducePow, Int.reduceEq, ↓reduceIte, Nat.reduceEqDiff, Nat.reduceAdd, Nat.reduceMul, Nat.reduceLeDiff, Nat.reduceSub, Nat.reduceLT, Int.reduceToNat, Int.reduceLT, Int.reduceLE, reduceCtorEq]))
        rw [b, d]
        exact fin _ _ _ hn1 (by rw [hwd]; exact ho2.rl cs2) (fun id h => osid h) f
      · skip
        try simp only [a, a', go_sem, Int.reduceTMod, Int.reduceTDiv, Int.reduceDiv, Int.reduceMod, Int.reduceAdd, Int.reduceSub, Int.reduceMul, Int.reduceNeg, Int.reducePow, Int.reduceEq, ↓reduceIte, Nat.reduceEqDiff, Nat.reduceAdd, Nat.reduceMul, Nat.reduceLeDiff, Nat.reduceSub, Nat.reduceLT, Int.reduceToNat, Int.reduceLT, Int.reduceLE, reduceCtorEq]
        repeat' ((first | refine FK_split (fun h_ => ?_) (fun h_ => ?_) | refine GK_split (fun h_ => ?_) (fun h_ => ?_) | refine ite_both (fun h_ => ?_) (fun h_ => ?_)) <;> (try simp only [decide_eq_true_eq, decide_eq_false_iff_not, Bool.not_true, Bool.not_false, Bool.not_eq_true', Bool.not_eq_false', Bool.not_eq_eq_eq_not, Decidable.not_not] at h_) <;> (try simp only [a, a', h_, go_sem, Int.reduceTMod, Int.reduceTDiv, Int.reduceDiv, Int.reduceMod, Int.reduceAdd, Int.reduceSub, Int.reduceMul, Int.reduceNeg, Int.reducePow, Int.reduceEq, ↓reduceIte, Nat.reduceEqDiff, Nat.reduceAdd, Nat.reduceMul, Nat.reduceLeDiff, Nat.reduceSub, Nat.reduceLT, Int.reduceToNat, Int.reduceLT, Int.reduceLE, reduceCtorEq]))
        rw [b, d]
        exact finb _ _ hn1 f
    · have heb := pt_nb e
      rw [if_pos (by simp [e])] at hwd
      try simp only [r16_0, r16_1, r16_2, r16_3, r16_4, r16_5, r16_7, r16_8, r16_6, r16_9, c16, F16, hr1, hlen, g1', c5, c6, c8, c9, hrd, hrd', heb, Int.toNat_natCast, Nat.zero_mul, Nat.add_zero, Int.toNat_zero, Int.reduceToNat, go_sem, Int.reduceTMod, Int.reduceTDiv, Int.reduceDiv, Int.reduceMod, Int.reduceAdd, Int.reduceSub, Int.reduceMul, Int.reduceNeg, Int.reducePow, Int.reduceEq, ↓reduceIte, Nat.reduceEqDiff, Nat.reduceAdd, Nat.reduceMul, Nat.reduceLeDiff, Nat.reduceSub, Nat.reduceLT, Int.reduceToNat, Int.reduceLT, Int.reduceLE, reduceCtorEq]
      repeat' ((first | refine FK_split (fun h_ => ?_) (fun h_ => ?_) | refine GK_split (fun h_ => ?_) (fun h_ => ?_) | refine ite_both (fun h_ => ?_) (fun h_ => ?_)) <;> (try simp only [decide_eq_true_eq, decide_eq_false_iff_not, Bool.not_true, Bool.not_false, Bool.not_eq_true', Bool.not_eq_false', Bool.not_eq_eq_eq_not, Decidable.not_not] at h_) <;> (try simp only [r16_0, r16_1, r16_2, r16_3, r16_4, r16_5, r16_7, r16_8, r16_6, r16_9, c16, F16, hr1, hlen, g1', c5, c6, c8, c9, hrd, hrd', heb, Int.toNat_natCast, Nat.zero_mul, Nat.add_zero, Int.toNat_zero, Int.reduceToNat, h_, go_sem, Int.reduceTMod, Int.reduceTDiv, Int.reduceDiv, Int.reduceMod, Int.reduceAdd, Int.reduceSub, Int.reduceMul, Int.reduceNeg, Int.reducePow, Int.reduceEq, ↓reduceIte, Nat.reduceEqDiff, Nat.reduceAdd, Nat.reduceMul, Nat.reduceLeDiff, Nat.reduceSub, Nat.reduceLT, Int.reduceToNat, Int.reduceLT, Int.reduceLE, reduceCtorEq]))
      have ho3 := ho2
      rw [hr1] at ho3
      refine K_push cs2 (by decide) (p := u) (o := true) ho3 (by omega) (fun id h1 h2 => by simp only [na_0 h2, na_ne h2, go_sem, Int.reduceTMod, Int.reduceTDiv, Int.reduceDiv, Int.reduceMod, Int.reduceAdd, Int.reduceSub, Int.reduceMul, Int.reduceNeg, Int.reducePow, Int.reduceEq, ↓reduceIte, Nat.reduceEqDiff, Nat.reduceAdd, Nat.reduceMul, Nat.reduceLeDiff, Nat.reduceSub, Nat.reduceLT, Int.reduceToNat, Int.reduceLT, Int.reduceLE, reduceCtorEq]) (by simp only [go_sem, Int.reduceTMod, Int.reduceTDiv, Int.reduceDiv, Int.reduceMod, Int.reduceAdd, Int.reduceSub, Int.reduceMul, Int.reduceNeg, Int.reducePow, Int.reduceEq, ↓reduceIte, Nat.reduceEqDiff, Nat.reduceAdd, Nat.reduceMul, Nat.reduceLeDiff, Nat.reduceSub, Nat.reduceLT, Int.reduceToNat, Int.reduceLT, Int.reduceLE, reduceCtorEq]) (by omega) (by omega) ?_
      intro r' m' hop h1 h2
      rw [← hwd] at hop
      try simp only [r16_0, r16_1, r16_2, r16_3, r16_4, r16_5, r16_7, r16_8, r16_6, r16_9, c16, F16, go_sem, Int.reduceTMod, Int.reduceTDiv, Int.reduceDiv, Int.reduceMod, Int.reduceAdd, Int.reduceSub, Int.reduceMul, Int.reduceNeg, Int.reducePow, Int.reduceEq, ↓reduceIte, Nat.reduceEqDiff, Nat.reduceAdd, Nat.reduceMul, Nat.reduceLeDiff, Nat.reduceSub, Nat.reduceLT, Int.reduceToNat, Int.reduceLT, Int.reduceLE, reduceCtorEq]
      repeat' ((first | refine FK_split (fun h_ => ?_) (fun h_ => ?_) | refine GK_split (fun h_ => ?_) (fun h_ => ?_) | refine ite_both (fun h_ => ?_) (fun h_ => ?_)) <;> (try simp only [decide_eq_true_eq, decide_eq_false_iff_not, Bool.not_true, Bool.not_false, Bool.not_eq_true', Bool.not_eq_false', Bool.not_eq_eq_eq_not, Decidable.not_not] at h_) <;> (try simp only [r16_0, r16_1, r16_2, r16_3, r16_4, r16_5, r16_7, r16_8, r16_6, r16_9, c16, F16, h_, go_sem, Int.reduceTMod, Int.reduceTDiv, Int.reduceDiv, Int.reduceMod, Int.reduceAdd, Int.reduceSub, Int.reduceMul, Int.reduceNeg, Int.reducePow, Int.reduceEq, ↓reduceIte, Nat.reduceEqDiff, Nat.reduceAdd, Nat.reduceMul, Nat.reduceLeDiff, Nat.reduceSub, Nat.reduceLT, Int.reduceToNat, Int.reduceLT, Int.reduceLE, reduceCtorEq]))
      refine rway_loop (w := wayL l true) (hop.rl cs2) hwall (by rw [hwd, List.length_append]; simp only [List.length_cons, List.length_nil]; omega) ?_ ?_ (fun f s a b d => ?_) (fun f s a a' b d => ?_)
      · simp only [go_sem, Int.reduceTMod, Int.reduceTDiv, Int.reduceDiv, Int.reduceMod, Int.reduceAdd, Int.reduceSub, Int.reduceMul, Int.reduceNeg, Int.reducePow, Int.reduceEq, ↓reduceIte, Nat.reduceEqDiff, Nat.reduceAdd, Nat.reduceMul, Nat.reduceLeDiff, Nat.reduceSub, Nat.reduceLT, Int.reduceToNat, Int.reduceLT, Int.reduceLE, reduceCtorEq]
      · simp only [go_sem, Int.reduceTMod, Int.reduceTDiv, Int.reduceDiv, Int.reduceMod, Int.reduceAdd, Int.reduceSub, Int.reduceMul, Int.reduceNeg, Int.reducePow, Int.reduceEq, ↓reduceIte, Nat.reduceEqDiff, Nat.reduceAdd, Nat.reduceMul, Nat.reduceLeDiff, Nat.reduceSub, Nat.reduceLT, Int.reduceToNat, Int.reduceLT, Int.reduceLE, reduceCtorEq]
      · skip
        try simp only [r16_0, r16_1, r16_2, r16_3, r16_4, r16_5, r16_7, r16_8, r16_6, r16_9, c16, F16, a, go_sem, Int.reduceTMod, Int.reduceTDiv, Int.reduceDiv, Int.reduceMod, Int.reduceAdd, Int.reduceSub, Int.reduceMul, Int.reduceNeg, Int.reducePow, Int.reduceEq, ↓reduceIte, Nat.reduceEqDiff, Nat.reduceAdd, Nat.reduceMul, Nat.reduceLeDiff, Nat.reduceSub, Nat.reduceLT, Int.reduceToNat, Int.reduceLT, Int.reduceLE, reduceCtorEq]
        repeat' ((first | refine FK_split (fun h_ => ?_) (fun h_ => ?_) | refine GK_split (fun h_ => ?_) (fun h_ => ?_) | refine ite_both (fun h_ => ?_) (fun h_ => ?_)) <;> (try simp only [decide_eq_true_eq, decide_eq_false_iff_not, Bool.not_true, Bool.not_false, Bool.not_eq_true', Bool.not_eq_false', Bool.not_eq_eq_eq_not, Decidable.not_not] at h_) <;> (try simp only [r16_0, r16_1, r16_2, r16_3, r16_4, r16_5, r16_7, r16_8, r16_6, r16_9, c16, F16, a, h_, go_sem, Int.reduceTMod, Int.reduceTDiv, Int.reduceDiv, Int.reduceMod, Int.reduceAdd, Int.reduceSub, Int.reduceMul, Int.reduceNeg, Int.reducePow, Int.reduceEq, ↓reduceIte, Nat.reduceEqDiff, Nat.reduceAdd, Nat.reduceMul, Nat.reduceLeDiff, Nat.reduceSub, Nat.reduceLT, Int.reduceToNat, Int.reduceLT, Int.reduceLE, reduceCtorEq]))
        rw [b, d]
        refine fin _ _ _ (by omega) (hop.rl cs2) (fun id h => ?_) f
        rcases hop with ⟨rfl, _⟩ | ⟨id', rfl, h2, _⟩
        · cases h
        · simp only [sid, Option.some.injEq] at h; omega
      · skip
        try simp only [a, a', go_sem, Int.reduceTMod, Int.reduceTDiv, Int.reduceDiv, Int.reduceMod, Int.reduceAdd, Int.reduceSub, Int.reduceMul, Int.reduceNeg, Int.reducePow, Int.reduceEq, ↓reduceIte, Nat.reduceEqDiff, Nat.reduceAdd, Nat.reduceMul, Nat.reduceLeDiff, Nat.reduceSub, Nat.reduceLT, Int.reduceToNat, Int.reduceLT, Int.reduceLE, reduceCtorEq]
        repeat' ((first | refine FK_split (fun h_ => ?_) (fun h_ => ?_) | refine GK_split (fun h_ => ?_) (fun h_ => ?_) | refine ite_both (fun h_ => ?_) (fun h_ => ?_)) <;> (try simp only [decide_eq_true_eq, decide_eq_false_iff_not, Bool.not_true, Bool.not_false, Bool.not_eq_true', Bool.not_eq_false', Bool.not_eq_eq_eq_not, Decidable.not_not] at h_) <;> (try simp only [a, a', h_, go_sem, Int.reduceTMod, Int.reduceTDiv, Int.reduceDiv, Int.reduceMod, Int.reduceAdd, Int.reduceSub, Int.reduceMul, Int.reduceNeg, Int.reducePow, Int.reduceEq, ↓reduceIte, Nat.reduceEqDiff, Nat.reduceAdd, Nat.reduceMul, Nat.reduceLeDiff, Nat.reduceSub, Nat.reduceLT, Int.reduceToNat, Int.reduceLT, Int.reduceLE, reduceCtorEq]))
        rw [b, d]
        exact finb _ _ (by omega) f
  · have hwd : wayL l c = pln l l.length := by
      unfold wayL
      rw [if_neg (fun h => g ⟨h.1, h.2.1⟩)]
    cases c
    · skip
      try simp only [r16_0, r16_1, r16_2, r16_3, r16_4, r16_5, r16_7, r16_8, r16_6, r16_9, c16, F16, hlen, go_sem, Int.reduceTMod, Int.reduceTDiv, Int.reduceDiv, Int.reduceMod, Int.reduceAdd, Int.reduceSub, Int.reduceMul, Int.reduceNeg, Int.reducePow, Int.reduceEq, ↓reduceIte, Nat.reduceEqDiff, Nat.reduceAdd, Nat.reduceMul, Nat.reduceLeDiff, Nat.reduceSub, Nat.reduceLT, Int.reduceToNat, Int.reduceLT, Int.reduceLE, reduceCtorEq]
      repeat' ((first | refine FK_split (fun h_ => ?_) (fun h_ => ?_) | refine GK_split (fun h_ => ?_) (fun h_ => ?_) | refine ite_both (fun h_ => ?_) (fun h_ => ?_)) <;> (try simp only [decide_eq_true_eq, decide_eq_false_iff_not, Bool.not_true, Bool.not_false, Bool.not_eq_true', Bool.not_eq_false', Bool.not_eq_eq_eq_not, Decidable.not_not] at h_) <;> (try simp only [r16_0, r16_1, r16_2, r16_3, r16_4, r16_5, r16_7, r16_8, r16_6, r16_9, c16, F16, hlen, h_, go_sem, Int.reduceTMod, Int.reduceTDiv, Int.reduceDiv, Int.reduceMod, Int.reduceAdd, Int.reduceSub, Int.reduceMul, Int.reduceNeg, Int.reducePow, Int.reduceEq, ↓reduceIte, Nat.reduceEqDiff, Nat.reduceAdd, Nat.reduceMul, Nat.reduceLeDiff, Nat.reduceSub, Nat.reduceLT, Int.reduceToNat, Int.reduceLT, Int.reduceLE, reduceCtorEq]))
      refine plain hwd _ ?_ ?_ _ (fun s a b d f => ?_) (fun s a a' b d f => ?_)
      · simp only [go_sem, Int.reduceTMod, Int.reduceTDiv, Int.reduceDiv, Int.reduceMod, Int.reduceAdd, Int.reduceSub, Int.reduceMul, Int.reduceNeg, Int.reducePow, Int.reduceEq, ↓reduceIte, Nat.reduceEqDiff, Nat.reduceAdd, Nat.reduceMul, Nat.reduceLeDiff, Nat.reduceSub, Nat.reduceLT, Int.reduceToNat, Int.reduceLT, Int.reduceLE, reduceCtorEq]
      · simp only [go_sem, Int.reduceTMod, Int.reduceTDiv, Int.reduceDiv, Int.reduceMod, Int.reduceAdd, Int.reduceSub, Int.reduceMul, Int.reduceNeg, Int.reducePow, Int.reduceEq, ↓reduceIte, Nat.reduceEqDiff, Nat.reduceAdd, Nat.reduceMul, Nat.reduceLeDiff, Nat.reduceSub, Nat.reduceLT, Int.reduceToNat, Int.reduceLT, Int.reduceLE, reduceCtorEq]
      · skip
        try simp only [r16_0, r16_1, r16_2, r16_3, r16_4, r16_5, r16_7, r16_8, r16_6, r16_9, c16, F16, a, go_sem, Int.reduceTMod, Int.reduceTDiv, Int.reduceDiv, Int.reduceMod, Int.reduceAdd, Int.reduceSub, Int.reduceMul, Int.reduceNeg, Int.reducePow, Int.reduceEq, ↓reduceIte, Nat.reduceEqDiff, Nat.reduceAdd, Nat.reduceMul, Nat.reduceLeDiff, Nat.reduceSub, Nat.reduceLT, Int.reduceToNat, Int.reduceLT, Int.reduceLE, reduceCtorEq]
        repeat' ((first | refine FK_split (fun h_ => ?_) (fun h_ => ?_) | refine GK_split (fun h_ => ?_) (fun h_ => ?_) | refine ite_both (fun h_ => ?_) (fun h_ => ?_)) <;> (try simp only [decide_eq_true_eq, decide_eq_false_iff_not, Bool.not_true, Bool.not_false, Bool.not_eq_true', Bool.not_eq_false', Bool.not_eq_eq_eq_not, Decidable.not_not] at h_) <;> (try simp only [r16_0, r16_1, r16_2, r16_3, r16_4, r16_5, r16_7, r16_8, r16_6, r16_9, c16, F16, a, h_, go_sem, Int.reduceTMod, Int.reduceTDiv, Int.reduceDiv, Int.reduceMod, Int.reduceAdd, Int.reduceSub, Int.reduceMul, Int.reduceNeg, Int.reducePow, Int.reduceEq, ↓reduceIte, Nat.reduceEqDiff, Nat.reduceAdd, Nat.reduceMul, Nat.reduceLeDiff, Nat.reduceSub, Nat.reduceLT, Int.reduceToNat, Int.reduceLT, Int.reduceLE, reduceCtorEq]))
        rw [b, d]
        exact fin _ _ _ hn1 (by rw [hwd]; exact ho2.rl cs2) (fun id h => osid h) f
      · skip
        try simp only [a, a', go_sem, Int.reduceTMod, Int.reduceTDiv, Int.reduceDiv, Int.reduceMod, Int.reduceAdd, Int.reduceSub, Int.reduceMul, Int.reduceNeg, Int.reducePow, Int.reduceEq, ↓reduceIte, Nat.reduceEqDiff, Nat.reduceAdd, Nat.reduceMul, Nat.reduceLeDiff, Nat.reduceSub, Nat.reduceLT, Int.reduceToNat, Int.reduceLT, Int.reduceLE, reduceCtorEq]
        repeat' ((first | refine FK_split (fun h_ => ?_) (fun h_ => ?_) | refine GK_split (fun h_ => ?_) (fun h_ => ?_) | refine ite_both (fun h_ => ?_) (fun h_ => ?_)) <;> (try simp only [decide_eq_true_eq, decide_eq_false_iff_not, Bool.not_true, Bool.not_false, Bool.not_eq_true', Bool.not_eq_false', Bool.not_eq_eq_eq_not, Decidable.not_not] at h_) <;> (try simp only [a, a', h_, go_sem, Int.reduceTMod, Int.reduceTDiv, Int.reduceDiv, Int.reduceMod, Int.reduceAdd, Int.reduceSub, Int.reduceMul, Int.reduceNeg, Int.reducePow, Int.reduceEq, ↓reduceIte, Nat.reduceEqDiff, Nat.reduceAdd, Nat.reduceMul, Nat.reduceLeDiff, Nat.reduceSub, Nat.reduceLT, Int.reduceToNat, Int.reduceLT, Int.reduceLE, reduceCtorEq]))
        rw [b, d]
        exact finb _ _ hn1 f
    · have g1' : ((1 : Int) < ((pln l l.length).length : Int)) = False := eq_false (fun h => g ⟨rfl, by omega⟩)
      try simp only [r16_0, r16_1, r16_2, r16_3, r16_4, r16_5, r16_7, r16_8, r16_6, r16_9, c16, F16, hlen, g1', go_sem, Int.reduceTMod, Int.reduceTDiv, Int.reduceDiv, Int.reduceMod, Int.reduceAdd, Int.reduceSub, Int.reduceMul, Int.reduceNeg, Int.reducePow, Int.reduceEq, ↓reduceIte, Nat.reduceEqDiff, Nat.reduceAdd, Nat.reduceMul, Nat.reduceLeDiff, Nat.reduceSub, Nat.reduceLT, Int.reduceToNat, Int.reduceLT, Int.reduceLE, reduceCtorEq]
      repeat' ((first | refine FK_split (fun h_ => ?_) (fun h_ => ?_) | refine GK_split (fun h_ => ?_) (fun h_ => ?_) | refine ite_both (fun h_ => ?_) (fun h_ => ?_)) <;> (try simp only [decide_eq_true_eq, decide_eq_false_iff_not, Bool.not_true, Bool.not_false, Bool.not_eq_true', Bool.not_eq_false', Bool.not_eq_eq_eq_not, Decidable.not_not] at h_) <;> (try simp only [r16_0, r16_1, r16_2, r16_3, r16_4, r16_5, r16_7, r16_8, r16_6, r16_9, c16, F16, hlen, g1', h_, go_sem, Int.reduceTMod, Int.reduceTDiv, Int.reduceDiv, Int.reduceMod, Int.reduceAdd, Int.reduceSub, Int.reduceMul, Int.reduceNeg, Int.reducePow, Int.reduceEq, ↓reduceIte, Nat.reduceEqDiff, Nat.reduceAdd, Nat.reduceMul, Nat.reduceLeDiff, Nat.reduceSub, Nat.reduceLT, Int.reduceToNat, Int.reduceLT, Int.reduceLE, reduceCtorEq]))
      refine plain hwd _ ?_ ?_ _ (fun s a b d f => ?_) (fun s a a' b d f => ?_)
      · simp only [go_sem, Int.reduceTMod, Int.reduceTDiv, Int.reduceDiv, Int.reduceMod, Int.reduceAdd, Int.reduceSub, Int.reduceMul, Int.reduceNeg, Int.reducePow, Int.reduceEq, ↓reduceIte, Nat.reduceEqDiff, Nat.reduceAdd, Nat.reduceMul, Nat.reduceLeDiff, Nat.reduceSub, Nat.reduceLT, Int.reduceToNat, Int.reduceLT, Int.reduceLE, reduceCtorEq]
      · simp only [go_sem, Int.reduceTMod, Int.reduceTDiv, Int.reduceDiv, Int.reduceMod, Int.reduceAdd, Int.reduceSub, Int.reduceMul, Int.reduceNeg, Int.reducePow, Int.reduceEq, ↓reduceIte, Nat.reduceEqDiff, Nat.reduceAdd, Nat.reduceMul, Nat.reduceLeDiff, Nat.reduceSub, Nat.reduceLT, Int.reduceToNat, Int.reduceLT, Int.reduceLE, reduceCtorEq]
      · skip
        try simp only [r16_0, r16_1, r16_2, r16_3, r16_4, r16_5, r16_7, r16_8, r16_6, r16_9, c16, F16, a, go_sem, Int.reduceTMod, Int.reduceTDiv, Int.reduceDiv, Int.reduceMod, Int.reduceAdd, Int.reduceSub, Int.reduceMul, Int.reduceNeg, Int.reducePow, Int.reduceEq, ↓reduceIte, Nat.reduceEqDiff, Nat.reduceAdd, Nat.reduceMul, Nat.reduceLeDiff, Nat.reduceSub, Nat.reduceLT, Int.reduceToNat, Int.reduceLT, Int.reduceLE, reduceCtorEq]
        repeat' ((first | refine FK_split (fun h_ => ?_) (fun h_ => ?_) | refine GK_split (fun h_ => ?_) (fun h_ => ?_) | refine ite_both (fun h_ => ?_) (fun h_ => ?_)) <;> (try simp only [decide_eq_true_eq, decide_eq_false_iff_not, Bool.not_true, Bool.not_false, Bool.not_eq_true', Bool.not_eq_false', Bool.not_eq_eq_eq_not, Decidable.not_not] at h_) <;> (try simp only [r16_0, r16_1, r16_2, r16_3, r16_4, r16_5, r16_7, r16_8, r16_6, r16_9, c16, F16, a, h_, go_sem, Int.reduceTMod, Int.reduceTDiv, Int.reduceDiv, Int.reduceMod, Int.reduceAdd, Int.reduceSub, Int.reduceMul, Int.reduceNeg, Int.reducePow, Int.reduceEq, ↓reduceIte, Nat.reduceEqDiff, Nat.reduceAdd, Nat.reduceMul, Nat.reduceLeDiff, Nat.reduceSub, Nat.reduceLT, Int.reduceToNat, Int.reduceLT, Int.reduceLE, reduceCtorEq]))
        rw [b, d]
        exact fin _ _ _ hn1 (by rw [hwd]; exact ho2.rl cs2) (fun id h => osid h) f
      · skip
        try simp only [a, a', go_sem, Int.reduceTMod, Int.reduceTDiv, Int.reduceDiv, Int.reduceMod, Int.reduceAdd, Int.reduceSub, Int.reduceMul, Int.reduceNeg, Int.reducePow, Int.reduceEq, ↓reduceIte, Nat.reduceEqDiff, Nat.reduceAdd, Nat.reduceMul, Nat.reduceLeDiff, Nat.reduceSub, Nat.reduceLT, Int.reduceToNat, Int.reduceLT, Int.reduceLE, reduceCtorEq]
        repeat' ((first | refine FK_split (fun h_ => ?_) (fun h_ => ?_) | refine GK_split (fun h_ => ?_) (fun h_ => ?_) | refine ite_both (fun h_ => ?_) (fun h_ => ?_)) <;> (try simp only [decide_eq_true_eq, decide_eq_false_iff_not, Bool.not_true, Bool.not_false, Bool.not_eq_true', Bool.not_eq_false', Bool.not_eq_eq_eq_not, Decidable.not_not] at h_) <;> (try simp only [a, a', h_, go_sem, Int.reduceTMod, Int.reduceTDiv, Int.reduceDiv, Int.reduceMod, Int.reduceAdd, Int.reduceSub, Int.reduceMul, Int.reduceNeg, Int.reducePow, Int.reduceEq, ↓reduceIte, Nat.reduceEqDiff, Nat.reduceAdd, Nat.reduceMul, Nat.reduceLeDiff, Nat.reduceSub, Nat.reduceLT, Int.reduceToNat, Int.reduceLT, Int.reduceLE, reduceCtorEq]))
        rw [b, d]
        exact finb _ _ hn1 f

/- Ways along subpaths: the program's. Conditions: those that each theorem names. -/
open Go Go.Proofs
set_option linter.unusedSimpArgs false
set_option linter.unusedVariables false

theorem w_CompactN (m : Mem) (n : Nat) : Fn TA 35 [rnil] m n (fun r' m' n' => r' = rnil ∧ m' = m ∧ n' = n) := by
  refine Fn_ofK (fn := F35) rfl (by simp [F35]) ?_
  try simp only [r35_0, r35_1, r35_2, r35_3, r35_4, r35_6, r35_7, r35_8, r35_9, r35_11, r35_12, r35_13, r35_10, r35_14, r35_15, r35_5, r35_16, c35, F35, go_sem, Int.reduceTMod, Int.reduceTDiv, Int.reduceDiv, Int.reduceMod, Int.reduceAdd, Int.reduceSub, Int.reduceMul, Int.reduceNeg, Int.reducePow, Int.reduceEq, ↓reduceIte, Nat.reduceEqDiff, Nat.reduceAdd, Nat.reduceMul, Nat.reduceLeDiff, Nat.reduceSub, Nat.reduceLT, Int.reduceToNat, Int.reduceLT, Int.reduceLE, reduceCtorEq]
  repeat' ((first | refine FK_split (fun h_ => ?_) (fun h_ => ?_) | refine GK_split (fun h_ => ?_) (fun h_ => ?_) | refine ite_both (fun h_ => ?_) (fun h_ => ?_)) <;> (try simp only [decide_eq_true_eq, decide_eq_false_iff_not, Bool.not_true, Bool.not_false, Bool.not_eq_true', Bool.not_eq_false', Bool.not_eq_eq_eq_not, Decidable.not_not] at h_) <;> (try simp only [r35_0, r35_1, r35_2, r35_3, r35_4, r35_6, r35_7, r35_8, r35_9, r35_11, r35_12, r35_13, r35_10, r35_14, r35_15, r35_5, r35_16, c35, F35, h_, go_sem, Int.reduceTMod, Int.reduceTDiv, Int.reduceDiv, Int.reduceMod, Int.reduceAdd, Int.reduceSub, Int.reduceMul, Int.reduceNeg, Int.reducePow, Int.reduceEq, ↓reduceIte, Nat.reduceEqDiff, Nat.reduceAdd, Nat.reduceMul, Nat.reduceLeDiff, Nat.reduceSub, Nat.reduceLT, Int.reduceToNat, Int.reduceLT, Int.reduceLE, reduceCtorEq]))
theorem w_CompactB {base : Nat} {r1 : Reg} {l : List Pt} {m : Mem} {n : Nat} (hl : l.length < 4294967296)
    (h : (r1 = rnil ∧ l = []) ∨ ∃ id cap, r1 = .one (.sl id 0 l.length cap 2) ∧ base ≤ id ∧ id < n ∧ m id = some ⟨l.flatMap Pt.cs, true⟩ ∧ (cap = none ∨ l = [])) :
    Fn TA 35 [r1] m n (fun r' m' n' => PL base m' n' r' (pln l l.length) ∧ n' = n ∧ ∀ i, i < base → m' i = m i) := by
  rcases h with ⟨rfl, rfl⟩ | ⟨id, cap, rfl, h1, h2, h3, h4⟩
  · refine (w_CompactN m n).mono ?_
    rintro _ _ _ ⟨rfl, rfl, rfl⟩
    exact ⟨Or.inl ⟨rfl, rfl⟩, rfl, fun _ _ => rfl⟩
  · refine (w_Compact id cap l m n h2 h3 h4 hl).mono ?_
    rintro r' m' n' ⟨k1, k2, k3⟩
    refine ⟨?_, k2, fun i hi => k3 i (by omega)⟩
    rcases k1 with k1 | ⟨id', cap', b, e1, e2, e3, e4, e5, e6⟩
    · exact Or.inl k1
    · exact Or.inr ⟨id', cap', b, e1, by omega, e3, e4, e5, e6⟩
/-- One point more. -/
theorem K_pushP {T : Nat → Option SFun} {base n0 n : Nat} {m0 m : Mem} {id off : Nat} {cap : Option Nat} {l : List Pt} {p : Pt} {j by' : Nat} {o : Bool} {d : Option Nat} {os : List SOper} {e : Nat → Reg} {k : Kt}
    (ho : PL base m0 n0 (.one (.sl id off l.length cap 2)) l) (hne : l ≠ []) (hn : n0 ≤ n) (hm : ∀ id, base ≤ id → id < n0 → m id = m0 id) (hj : m j = some ⟨p.cs, o⟩) (hsm : l.length + 1 ≤ 4294967296) (hbase : base ≤ n)
    (next : ∀ r m', OPt base m' (n + 1) r (l ++ [p]) → (∀ id, id < base → m' id = m id) → RK T os (putE e d r) m' (n + 1) k) :
    ThenK T d os e k (evApp m n 2 by' (.one (.sl id off l.length cap 2)) (.one (.sl j 0 1 (some 1) 2))) := by
  have hx : newsOf m 2 (.one (.sl j 0 1 (some 1) 2)) = some (1, p.cs) := by
    simp only [newsOf, if_true]
    rw [rd_of hj]
    simp [rdB]
  rcases ho with ⟨h, _⟩ | ⟨id', cap', b, h1, h2, h3, h4, h5, h6⟩
  · cases h
  · simp only [Reg.one.injEq, Cell.sl.injEq, true_and] at h1
    obtain ⟨rfl, rfl, rfl, _⟩ := h1
    obtain rfl : cap = none := h6.resolve_right hne
    have h7 : m id = some ⟨b, true⟩ := by rw [hm id h2 h3]; exact h4
    have h8 : rd m id 0 (l.length * 2) = some (l.flatMap Pt.cs) := by rw [rd_same (hm id h2 h3)]; exact h5
    simp only [evApp, hx, if_true, h7, h8, Option.map_some, true_and, if_pos hsm]
    refine next _ _ (Or.inr ⟨n, by simp, hbase, by omega, ?_⟩) (fun i hi => ?_)
    · rw [upd_same]; simp
    · rw [upd_ne _ _ (by omega), upd_ne _ _ (by omega)]
/-- The answer of the program's Way. -/
def WayQ (l : List Pt) (c : Bool) (n : Nat) (r' : Reg) (m' : Mem) (n' : Nat) : Prop :=
  n ≤ n' ∧ ∃ x k, r' = .tup [x, RI k] ∧
    (l.all inP = false → x = rnil ∧ k = 30) ∧
    (l.all inP = true → anyLg (wayL l c) (wayL l c).length = true → x = rnil ∧ k = 10) ∧
    (l.all inP = true → anyLg (wayL l c) (wayL l c).length = false → k = 0 ∧ RPt m' n' x (wayL l c) ∧ ∀ id, sid x = some id → n ≤ id)
theorem w_Way (c0 : Cell) (l : List Pt) (c : Bool) (m : Mem) (n : Nat) (hr : RPt m n (.one c0) l) (hl : l.length < 4000000000) :
    Fn TA 14 [.agg [c0, .sc (.bool c)]] m n (WayQ l c n) := by
  refine Fn_ofK (fn := F14) rfl (by simp [F14]) ?_
  have hr1 : RPt (upd m n (some ⟨[c0, .sc (.bool c)], true⟩)) (n + 1) (.one c0) l := hr.keep (by omega) (fun id hid => upd_ne _ _ (by omega))
  have vc := v_Contains 33 v_Way1 (.one c0) l (frz (upd m n (some ⟨[c0, .sc (.bool c)], true⟩))) (n + 1) hr1.frz (by omega)
  cases hi : l.all inP
  · rw [hi] at vc
    try simp only [r14_0, r14_1, r14_2, r14_3, r14_4, r14_5, r14_6, r14_7, r14_9, r14_10, r14_11, r14_8, r14_12, c14, F14, vc, go_sem, Int.reduceTMod, Int.reduceTDiv, Int.reduceDiv, Int.reduceMod, Int.reduceAdd, Int.reduceSub, Int.reduceMul, Int.reduceNeg, Int.reducePow, Int.reduceEq, ↓reduceIte, Nat.reduceEqDiff, Nat.reduceAdd, Nat.reduceMul, Nat.reduceLeDiff, Nat.reduceSub, Nat.reduceLT, Int.reduceToNat, Int.reduceLT, Int.reduceLE, reduceCtorEq]
    repeat' ((first | refine FK_split (fun h_ => ?_) (fun h_ => ?_) | refine GK_split (fun h_ => ?_) (fun h_ => ?_) | refine ite_both (fun h_ => ?_) (fun h_ => ?_)) <;> (try simp only [decide_eq_true_eq, decide_eq_false_iff_not, Bool.not_true, Bool.not_false, Bool.not_eq_true', Bool.not_eq_false', Bool.not_eq_eq_eq_not, Decidable.not_not] at h_) <;> (try simp only [r14_0, r14_1, r14_2, r14_3, r14_4, r14_5, r14_6, r14_7, r14_9, r14_10, r14_11, r14_8, r14_12, c14, F14, vc, h_, go_sem, Int.reduceTMod, Int.reduceTDiv, Int.reduceDiv, Int.reduceMod, Int.reduceAdd, Int.reduceSub, Int.reduceMul, Int.reduceNeg, Int.reducePow, Int.reduceEq, ↓reduceIte, Nat.reduceEqDiff, Nat.reduceAdd, Nat.reduceMul, Nat.reduceLeDiff, Nat.reduceSub, Nat.reduceLT, Int.reduceToNat, Int.reduceLT, Int.reduceLE, reduceCtorEq]))
    exact ⟨by omega, rnil, 30, rfl, fun _ => ⟨rfl, rfl⟩, fun h => (by rw [hi] at h; cases h), fun h => (by rw [hi] at h; cases h)⟩
  · rw [hi] at vc
    try simp only [r14_0, r14_1, r14_2, r14_3, r14_4, r14_5, r14_6, r14_7, r14_9, r14_10, r14_11, r14_8, r14_12, c14, F14, vc, go_sem, Int.reduceTMod, Int.reduceTDiv, Int.reduceDiv, Int.reduceMod, Int.reduceAdd, Int.reduceSub, Int.reduceMul, Int.reduceNeg, Int.reducePow, Int.reduceEq, ↓reduceIte, Nat.reduceEqDiff, Nat.reduceAdd, Nat.reduceMul, Nat.reduceLeDiff, Nat.reduceSub, Nat.reduceLT, Int.reduceToNat, Int.reduceLT, Int.reduceLE, reduceCtorEq]
    repeat' ((first | refine FK_split (fun h_ => ?_) (fun h_ => ?_) | refine GK_split (fun h_ => ?_) (fun h_ => ?_) | refine ite_both (fun h_ => ?_) (fun h_ => ?_)) <;> (try simp only [decide_eq_true_eq, decide_eq_false_iff_not, Bool.not_true, Bool.not_false, Bool.not_eq_true', Bool.not_eq_false', Bool.not_eq_eq_eq_not, Decidable.not_not] at h_) <;> (try simp only [r14_0, r14_1, r14_2, r14_3, r14_4, r14_5, r14_6, r14_7, r14_9, r14_10, r14_11, r14_8, r14_12, c14, F14, vc, h_, go_sem, Int.reduceTMod, Int.reduceTDiv, Int.reduceDiv, Int.reduceMod, Int.reduceAdd, Int.reduceSub, Int.reduceMul, Int.reduceNeg, Int.reducePow, Int.reduceEq, ↓reduceIte, Nat.reduceEqDiff, Nat.reduceAdd, Nat.reduceMul, Nat.reduceLeDiff, Nat.reduceSub, Nat.reduceLT, Int.reduceToNat, Int.reduceLT, Int.reduceLE, reduceCtorEq]))
    refine RK_callk ?_
    refine (w_Clone _ l _ _ hr1.frz (by omega)).mono ?_
    rintro r1 m1 n1 ⟨hc, hn1⟩
    obtain ⟨M, hM⟩ : ∃ M, M = unfrz (upd m n (some ⟨[c0, .sc (.bool c)], true⟩)) (n + 1) m1 := ⟨_, rfl⟩
    rw [← hM, show max (n + 1) n1 = n1 by omega]
    have hn : M n = some ⟨[c0, .sc (.bool c)], true⟩ := by rw [hM]; simp only [go_sem, Int.reduceTMod, Int.reduceTDiv, Int.reduceDiv, Int.reduceMod, Int.reduceAdd, Int.reduceSub, Int.reduceMul, Int.reduceNeg, Int.reducePow, Int.reduceEq, ↓reduceIte, Nat.reduceEqDiff, Nat.reduceAdd, Nat.reduceMul, Nat.reduceLeDiff, Nat.reduceSub, Nat.reduceLT, Int.reduceToNat, Int.reduceLT, Int.reduceLE, reduceCtorEq]
    try simp only [go_sem, Int.reduceTMod, Int.reduceTDiv, Int.reduceDiv, Int.reduceMod, Int.reduceAdd, Int.reduceSub, Int.reduceMul, Int.reduceNeg, Int.reducePow, Int.reduceEq, ↓reduceIte, Nat.reduceEqDiff, Nat.reduceAdd, Nat.reduceMul, Nat.reduceLeDiff, Nat.reduceSub, Nat.reduceLT, Int.reduceToNat, Int.reduceLT, Int.reduceLE, reduceCtorEq]
    repeat' ((first | refine FK_split (fun h_ => ?_) (fun h_ => ?_) | refine GK_split (fun h_ => ?_) (fun h_ => ?_) | refine ite_both (fun h_ => ?_) (fun h_ => ?_)) <;> (try simp only [decide_eq_true_eq, decide_eq_false_iff_not, Bool.not_true, Bool.not_false, Bool.not_eq_true', Bool.not_eq_false', Bool.not_eq_eq_eq_not, Decidable.not_not] at h_) <;> (try simp only [h_, go_sem, Int.reduceTMod, Int.reduceTDiv, Int.reduceDiv, Int.reduceMod, Int.reduceAdd, Int.reduceSub, Int.reduceMul, Int.reduceNeg, Int.reducePow, Int.reduceEq, ↓reduceIte, Nat.reduceEqDiff, Nat.reduceAdd, Nat.reduceMul, Nat.reduceLeDiff, Nat.reduceSub, Nat.reduceLT, Int.reduceToNat, Int.reduceLT, Int.reduceLE, reduceCtorEq]))
    refine RK_callw ?_
    have hc2 : (r1 = rnil ∧ l = []) ∨ ∃ id cap, r1 = .one (.sl id 0 l.length cap 2) ∧ n + 1 ≤ id ∧ id < n1 ∧ M id = some ⟨l.flatMap Pt.cs, true⟩ ∧ (cap = none ∨ l = []) := by
      rcases hc with hc | ⟨id, cap, e1, e2, e3, e4, e5⟩
      · exact Or.inl hc
      · exact Or.inr ⟨id, cap, e1, e2, e3, by rw [hM, unfrz_at, if_neg (by omega)]; exact e4, e5⟩
    refine (w_CompactB (base := n + 1) (by omega) hc2).mono ?_
    rintro r2 m2 n2 ⟨ho, rfl, hfr⟩
    have hn2 : m2 n = some ⟨[c0, .sc (.bool c)], true⟩ := by rw [hfr n (by omega)]; exact hn
    have hrl := PL.rl ho
    have hplen := pln_len l l.length
    have hwall := way_all (c := c) hi
    have hlen := hrl.len
    have hnN : n < n2 := by omega
    have fin : ∀ (M : Mem) (N : Nat) (r : Reg), n ≤ N → RPt M N r (wayL l c) → (∀ id, sid r = some id → n ≤ id) → anyLg (wayL l c) (wayL l c).length = false → WayQ l c n (.tup [r, RI 0]) M N :=
      fun M N r h1 h2 h3 h4 => ⟨h1, r, 0, rfl, fun h => (by rw [hi] at h; cases h), fun _ h => (by rw [h4] at h; cases h), fun _ _ => ⟨rfl, h2, h3⟩⟩
    have finb : ∀ (M : Mem) (N : Nat), n ≤ N → anyLg (wayL l c) (wayL l c).length = true → WayQ l c n (.tup [rnil, RI 10]) M N :=
      fun M N h1 h4 => ⟨h1, rnil, 10, rfl, fun h => (by rw [hi] at h; cases h), fun _ _ => ⟨rfl, rfl⟩, fun _ h => (by rw [h4] at h; cases h)⟩
    have osid : ∀ {id}, sid r2 = some id → n ≤ id := fun {id} h => by
      rcases ho with ⟨rfl, _⟩ | ⟨id', cap, b, rfl, h2, _⟩
      · cases h
      · simp only [sid, Option.some.injEq] at h; omega
    have plain : wayL l c = pln l l.length → ∀ e : Nat → Reg, e 4 = r2 → e 5 = RI 1 → ∀ K : Kt, (∀ s, s.e 4 = r2 → s.m = m2 → s.n = n2 → anyLg (wayL l c) (wayL l c).length = false → KX TA K 0 s) → (∀ s, s.e 2 = rnil → s.e 3 = RI 10 → s.m = m2 → s.n = n2 → anyLg (wayL l c) (wayL l c).length = true → KR TA K s) →
        XK TA (.loop l14_0) ⟨e, m2, n2⟩ K := fun hw e e6 e7 K h1 h2 =>
      way_loop (w := wayL l c) (by rw [hw]; exact hrl) hwall (by rw [hw]; omega) e6 e7 (fun h s a b d => h1 s a b d h) (fun h s a b d f => h2 s a b d f h)
    by_cases g : c = true ∧ 1 < (pln l l.length).length
    · obtain ⟨gc, g1⟩ := g
      subst gc
      have g1' : ((1 : Int) < ((pln l l.length).length : Int)) = True := eq_true (by omega)
      have hf : (pln l l.length)[0]? = some ((pln l l.length)[0]'(by omega)) := List.getElem?_eq_getElem (by omega)
      have hg : (pln l l.length)[(pln l l.length).length - 1]? = some ((pln l l.length)[(pln l l.length).length - 1]'(by omega)) := List.getElem?_eq_getElem (by omega)
      obtain ⟨id, off, cap, hr1, hid, hrd⟩ := hrl.at cs2 hf
      obtain ⟨id', off', cap', hr1', hid', hrd'⟩ := hrl.at cs2 hg
      rw [hr1] at hr1'
      simp only [Reg.one.injEq, Cell.sl.injEq, true_and] at hr1'
      obtain ⟨rfl, rfl, rfl, _⟩ := hr1'
      have c5 : IntKind.i64.wrap (((pln l l.length).length : Int) - 1) = (((pln l l.length).length - 1 : Nat) : Int) := (wr_eq (by omega) (by omega)).trans (by omega)
      have c6 : ((((pln l l.length).length - 1 : Nat) : Int) < ((pln l l.length).length : Int)) = True := eq_true (by omega)
      have c8 : (0 ≤ (((pln l l.length).length - 1 : Nat) : Int)) = True := eq_true (by omega)
      have c9 : ((0 : Int) < ((pln l l.length).length : Int)) = True := eq_true (by omega)
      rw [Nat.zero_mul, Nat.add_zero] at hrd
      have ht1 : (pln l l.length).take 1 = [(pln l l.length)[0]'(by omega)] := by
        rw [show (1 : Nat) = 0 + 1 from rfl, List.take_add_one, hf]; rfl
      have hne : pln l l.length ≠ [] := fun h => by rw [h] at g1; exact absurd g1 (by decide)
      have hwd : wayL l true = if (pln l l.length)[(pln l l.length).length - 1]? ≠ (pln l l.length)[0]? then pln l l.length ++ (pln l l.length).take 1 else pln l l.length := by
        unfold wayL
        by_cases e : (pln l l.length)[(pln l l.length).length - 1]? ≠ (pln l l.length)[0]?
        · rw [if_pos ⟨rfl, g1, e⟩, if_pos e]
        · rw [if_neg (fun h => e h.2.2), if_neg e]
      rw [hf, hg, ht1] at hwd
      generalize ((pln l l.length)[0]'(by omega)) = u at *
      generalize ((pln l l.length)[(pln l l.length).length - 1]'(by omega)) = v at *
      by_cases e : v = u
      · have heb := pt_eb e
        rw [if_neg (by simp [e])] at hwd
        try simp only [r14_0, r14_1, r14_2, r14_3, r14_4, r14_5, r14_6, r14_7, r14_9, r14_10, r14_11, r14_8, r14_12, c14, F14, hn2, hr1, hlen, g1', c5, c6, c8, c9, hrd, hrd', heb, Int.toNat_natCast, Nat.zero_mul, Nat.add_zero, Int.toNat_zero, Int.reduceToNat, go_sem, Int.reduceTMod, Int.reduceTDiv, Int.reduceDiv, Int.reduceMod, Int.reduceAdd, Int.reduceSub, Int.reduceMul, Int.reduceNeg, Int.reducePow, Int.reduceEq, ↓reduceIte, Nat.reduceEqDiff, Nat.reduceAdd, Nat.reduceMul, Nat.reduceLeDiff, Nat.reduceSub, Nat.reduceLT, Int.reduceToNat, Int.reduceLT, Int.reduceLE, reduceCtorEq]
        repeat' ((first | refine FK_split (fun h_ => ?_) (fun h_ => ?_) | refine GK_split (fun h_ => ?_) (fun h_ => ?_) | refine ite_both (fun h_ => ?_) (fun h_ => ?_)) <;> (try simp only [decide_eq_true_eq, decide_eq_false_iff_not, Bool.not_true, Bool.not_false, Bool.not_eq_true', Bool.not_eq_false', Bool.not_eq_eq_eq_not, Decidable.not_not] at h_) <;> (try simp only [r14_0, r14_1, r14_2, r14_3, r14_4, r14_5, r14_6, r14_7, r14_9, r14_10, r14_11, r14_8, r14_12, c14, F14, hn2, hr1, hlen, g1', c5, c6, c8, c9, hrd, hrd', heb, Int.toNat_natCast, Nat.zero_mul, Nat.add_zero, Int.toNat_zero, Int.reduceToNat, h_, go_sem, Int.reduceTMod, Int.reduceTDiv, Int.reduceDiv, Int.reduceMod, Int.reduceAdd, Int.reduceSub, Int.reduceMul, Int.reduceNeg, Int.reducePow, Int.reduceEq, ↓reduceIte, Nat.reduceEqDiff, Nat.reduceAdd, Nat.reduceMul, Nat.reduceLeDiff, Nat.reduceSub, Nat.reduceLT, Int.reduceToNat, Int.reduceLT, Int.reduceLE, reduceCtorEq]))
        refine plain hwd _ ?_ ?_ _ (fun s a b d f => ?_) (fun s a a' b d f => ?_)
        · simp only [hr1, go_sem, Int.reduceTMod, Int.reduceTDiv, Int.reduceDiv, Int.reduceMod, Int.reduceAdd, Int.reduceSub, Int.reduceMul, Int.reduceNeg, Int.reducePow, Int.reduceEq, ↓reduceIte, Nat.reduceEqDiff, Nat.reduceAdd, Nat.reduceMul, Nat.reduceLeDiff, Nat.reduceSub, Nat.reduceLT, Int.reduceToNat, Int.reduceLT, Int.reduceLE, reduceCtorEq]
        · simp only [go_sem, Int.reduceTMod, Int.reduceTDiv, Int.reduceDiv, Int.reduceMod, Int.reduceAdd, Int.reduceSub, Int.reduceMul, Int.reduceNeg, Int.reducePow, Int.reduceEq, ↓reduceIte, Nat.reduceEqDiff, Nat.reduceAdd, Nat.reduceMul, Nat.reduceLeDiff, Nat.reduceSub, Nat.reduceLT, Int.reduceToNat, Int.reduceLT, Int.reduceLE, reduceCtorEq]
        · skip
          try simp only [r14_0, r14_1, r14_2, r14_3, r14_4, r14_5, r14_6, r14_7, r14_9, r14_10, r14_11, r14_8, r14_12, c14, F14, a, go_sem, Int.reduceTMod, Int.reduceTDiv, Int.reduceDiv, Int.reduceMod, Int.reduceAdd, Int.reduceSub, Int.reduceMul, Int.reduceNeg, Int.reducePow, Int.reduceEq, ↓reduceIte, Nat.reduceEqDiff, Nat.reduceAdd, Nat.reduceMul, Nat.reduceLeDiff, Nat.reduceSub, Nat.reduceLT, Int.reduceToNat, Int.reduceLT, Int.reduceLE, reduceCtorEq]
          repeat' ((first | refine FK_split (fun h_ => ?_) (fun h_ => ?_) | refine GK_split (fun h_ => ?_) (fun h_ => ?_) | refine ite_both (fun h_ => ?_) (fun h_ => ?_)) <;> (try simp only [decide_eq_true_eq, decide_eq_false_iff_not, Bool.not_true, Bool.not_false, Bool.not_eq_true', Bool.not_eq_false', Bool.not_eq_eq_eq_not, Decidable.not_not] at h_) <;> (try simp only [r14_0, r14_1, r14_2, r14_3, r14_4, r14_5, r14_6, r14_7, r14_9, r14_10, r14_11, r14_8, r14_12, c14, F14, a, h_, go_sem, Int.reduceTMod, Int.reduceTDiv, Int.reduceDiv, Int.reduceMod, Int.reduceAdd, Int.reduceSub, Int.reduceMul, Int.reduceNeg, Int.reducePow, Int.reduceEq, ↓reduceIte, Nat.reduceEqDiff, Nat.reduceAdd, Nat.reduceMul, Nat.reduceLeDiff, Nat.reduceSub, Nat.reduceLT, Int.reduceToNat, Int.reduceLT, Int.reduceLE, reduceCtorEq]))
          rw [b, d]
          exact fin _ _ _ (by omega) (by rw [hwd]; exact hrl) (fun id h => osid h) f
        · skip
          try simp only [a, a', go_sem, Int.reduceTMod, Int.reduceTDiv, Int.reduceDiv, Int.reduceMod, Int.reduceAdd, Int.reduceSub, Int.reduceMul, Int.reduceNeg, Int.reducePow, Int.reduceEq, ↓reduceIte, Nat.reduceEqDiff, Nat.reduceAdd, Nat.reduceMul, Nat.reduceLeDiff, Nat.reduceSub, Nat.reduceLT, Int.reduceToNat, Int.reduceLT, Int.reduceLE, reduceCtorEq]
          repeat' ((first | refine FK_split (fun h_ => ?_) (fun h_ => ?_) | refine GK_split (fun h_ => ?_) (fun h_ => ?_) | refine ite_both (fun h_ => ?_) (fun h_ => ?_)) <;> (try simp only [decide_eq_true_eq, decide_eq_false_iff_not, Bool.not_true, Bool.not_false, Bool.not_eq_true', Bool.not_eq_false', Bool.not_eq_eq_eq_not, Decidable.not_not] at h_) <;> (try simp only [a, a', h_, go_sem, Int.reduceTMod, Int.reduceTDiv, Int.reduceDiv, Int.reduceMod, Int.reduceAdd, Int.reduceSub, Int.reduceMul, Int.reduceNeg, Int.reducePow, Int.reduceEq, ↓reduceIte, Nat.reduceEqDiff, Nat.reduceAdd, Nat.reduceMul, Nat.reduceLeDiff, Nat.reduceSub, Nat.reduceLT, Int.reduceToNat, Int.reduceLT, Int.reduceLE, reduceCtorEq]))
          rw [b, d]
          exact finb _ _ (by omega) f
      · have heb := pt_nb e
        rw [if_pos (by simp [e])] at hwd
        try simp only [r14_0, r14_1, r14_2, r14_3, r14_4, r14_5, r14_6, r14_7, r14_9, r14_10, r14_11, r14_8, r14_12, c14, F14, hn2, hr1, hlen, g1', c5, c6, c8, c9, hrd, hrd', heb, Int.toNat_natCast, Nat.zero_mul, Nat.add_zero, Int.toNat_zero, Int.reduceToNat, go_sem, Int.reduceTMod, Int.reduceTDiv, Int.reduceDiv, Int.reduceMod, Int.reduceAdd, Int.reduceSub, Int.reduceMul, Int.reduceNeg, Int.reducePow, Int.reduceEq, ↓reduceIte, Nat.reduceEqDiff, Nat.reduceAdd, Nat.reduceMul, Nat.reduceLeDiff, Nat.reduceSub, Nat.reduceLT, Int.reduceToNat, Int.reduceLT, Int.reduceLE, reduceCtorEq]
        repeat' ((first | refine FK_split (fun h_ => ?_) (fun h_ => ?_) | refine GK_split (fun h_ => ?_) (fun h_ => ?_) | refine ite_both (fun h_ => ?_) (fun h_ => ?_)) <;> (try simp only [decide_eq_true_eq, decide_eq_false_iff_not, Bool.not_true, Bool.not_false, Bool.not_eq_true', Bool.not_eq_false', Bool.not_eq_eq_eq_not, Decidable.not_not] at h_) <;> (try simp only [r14_0, r14_1, r14_2, r14_3, r14_4, r14_5, r14_6, r14_7, r14_9, r14_10, r14_11, r14_8, r14_12, c14, F14, hn2, hr1, hlen, g1', c5, c6, c8, c9, hrd, hrd', heb, Int.toNat_natCast, Nat.zero_mul, Nat.add_zero, Int.toNat_zero, Int.reduceToNat, h_, go_sem, Int.reduceTMod, Int.reduceTDiv, Int.reduceDiv, Int.reduceMod, Int.reduceAdd, Int.reduceSub, Int.reduceMul, Int.reduceNeg, Int.reducePow, Int.reduceEq, ↓reduceIte, Nat.reduceEqDiff, Nat.reduceAdd, Nat.reduceMul, Nat.reduceLeDiff, Nat.reduceSub, Nat.reduceLT, Int.reduceToNat, Int.reduceLT, Int.reduceLE, reduceCtorEq]))
        have ho3 := ho
        rw [hr1] at ho3
        refine K_pushP (p := u) (o := true) ho3 hne (by omega) (fun id h1 h2 => by simp only [na_0 h2, na_ne h2, go_sem, Int.reduceTMod, Int.reduceTDiv, Int.reduceDiv, Int.reduceMod, Int.reduceAdd, Int.reduceSub, Int.reduceMul, Int.reduceNeg, Int.reducePow, Int.reduceEq, ↓reduceIte, Nat.reduceEqDiff, Nat.reduceAdd, Nat.reduceMul, Nat.reduceLeDiff, Nat.reduceSub, Nat.reduceLT, Int.reduceToNat, Int.reduceLT, Int.reduceLE, reduceCtorEq]) (by simp only [go_sem, Int.reduceTMod, Int.reduceTDiv, Int.reduceDiv, Int.reduceMod, Int.reduceAdd, Int.reduceSub, Int.reduceMul, Int.reduceNeg, Int.reducePow, Int.reduceEq, ↓reduceIte, Nat.reduceEqDiff, Nat.reduceAdd, Nat.reduceMul, Nat.reduceLeDiff, Nat.reduceSub, Nat.reduceLT, Int.reduceToNat, Int.reduceLT, Int.reduceLE, reduceCtorEq]) (by omega) (by omega) ?_
        intro r' m' hop h1
        rw [← hwd] at hop
        try simp only [r14_0, r14_1, r14_2, r14_3, r14_4, r14_5, r14_6, r14_7, r14_9, r14_10, r14_11, r14_8, r14_12, c14, F14, go_sem, Int.reduceTMod, Int.reduceTDiv, Int.reduceDiv, Int.reduceMod, Int.reduceAdd, Int.reduceSub, Int.reduceMul, Int.reduceNeg, Int.reducePow, Int.reduceEq, ↓reduceIte, Nat.reduceEqDiff, Nat.reduceAdd, Nat.reduceMul, Nat.reduceLeDiff, Nat.reduceSub, Nat.reduceLT, Int.reduceToNat, Int.reduceLT, Int.reduceLE, reduceCtorEq]
        repeat' ((first | refine FK_split (fun h_ => ?_) (fun h_ => ?_) | refine GK_split (fun h_ => ?_) (fun h_ => ?_) | refine ite_both (fun h_ => ?_) (fun h_ => ?_)) <;> (try simp only [decide_eq_true_eq, decide_eq_false_iff_not, Bool.not_true, Bool.not_false, Bool.not_eq_true', Bool.not_eq_false', Bool.not_eq_eq_eq_not, Decidable.not_not] at h_) <;> (try simp only [r14_0, r14_1, r14_2, r14_3, r14_4, r14_5, r14_6, r14_7, r14_9, r14_10, r14_11, r14_8, r14_12, c14, F14, h_, go_sem, Int.reduceTMod, Int.reduceTDiv, Int.reduceDiv, Int.reduceMod, Int.reduceAdd, Int.reduceSub, Int.reduceMul, Int.reduceNeg, Int.reducePow, Int.reduceEq, ↓reduceIte, Nat.reduceEqDiff, Nat.reduceAdd, Nat.reduceMul, Nat.reduceLeDiff, Nat.reduceSub, Nat.reduceLT, Int.reduceToNat, Int.reduceLT, Int.reduceLE, reduceCtorEq]))
        refine way_loop (w := wayL l true) (hop.rl cs2) hwall (by rw [hwd, List.length_append]; simp only [List.length_cons, List.length_nil]; omega) ?_ ?_ (fun f s a b d => ?_) (fun f s a a' b d => ?_)
        · simp only [go_sem, Int.reduceTMod, Int.reduceTDiv, Int.reduceDiv, Int.reduceMod, Int.reduceAdd, Int.reduceSub, Int.reduceMul, Int.reduceNeg, Int.reducePow, Int.reduceEq, ↓reduceIte, Nat.reduceEqDiff, Nat.reduceAdd, Nat.reduceMul, Nat.reduceLeDiff, Nat.reduceSub, Nat.reduceLT, Int.reduceToNat, Int.reduceLT, Int.reduceLE, reduceCtorEq]
        · simp only [go_sem, Int.reduceTMod, Int.reduceTDiv, Int.reduceDiv, Int.reduceMod, Int.reduceAdd, Int.reduceSub, Int.reduceMul, Int.reduceNeg, Int.reducePow, Int.reduceEq, ↓reduceIte, Nat.reduceEqDiff, Nat.reduceAdd, Nat.reduceMul, Nat.reduceLeDiff, Nat.reduceSub, Nat.reduceLT, Int.reduceToNat, Int.reduceLT, Int.reduceLE, reduceCtorEq]
        · skip
          try simp only [r14_0, r14_1, r14_2, r14_3, r14_4, r14_5, r14_6, r14_7, r14_9, r14_10, r14_11, r14_8, r14_12, c14, F14, a, go_sem, Int.reduceTMod, Int.reduceTDiv, Int.reduceDiv, Int.reduceMod, Int.reduceAdd, Int.reduceSub, Int.reduceMul, Int.reduceNeg, Int.reducePow, Int.reduceEq, ↓reduceIte, Nat.reduceEqDiff, Nat.reduceAdd, Nat.reduceMul, Nat.reduceLeDiff, Nat.reduceSub, Nat.reduceLT, Int.reduceToNat, Int.reduceLT, Int.reduceLE, reduceCtorEq]
          repeat' ((first | refine FK_split (fun h_ => ?_) (fun h_ => ?_) | refine GK_split (fun h_ => ?_) (fun h_ => ?_) | refine ite_both (fun h_ => ?_) (fun h_ => ?_)) <;> (try simp only [decide_eq_true_eq, decide_eq_false_iff_not, Bool.not_true, Bool.not_false, Bool.not_eq_true', Bool.not_eq_false', Bool.not_eq_eq_eq_not, Decidable.not_not] at h_) <;> (try simp only [r14_0, r14_1, r14_2, r14_3, r14_4, r14_5, r14_6, r14_7, r14_9, r14_10, r14_11, r14_8, r14_12, c14, F14, a, h_, go_sem, Int.reduceTMod, Int.reduceTDiv, Int.reduceDiv, Int.reduceMod, Int.reduceAdd, Int.reduceSub, Int.reduceMul, Int.reduceNeg, Int.reducePow, Int.reduceEq, ↓reduceIte, Nat.reduceEqDiff, Nat.reduceAdd, Nat.reduceMul, Nat.reduceLeDiff, Nat.reduceSub, Nat.reduceLT, Int.reduceToNat, Int.reduceLT, Int.reduceLE, reduceCtorEq]))
          rw [b, d]
          refine fin _ _ _ (by omega) (hop.rl cs2) (fun id h => ?_) f
          rcases hop with ⟨rfl, _⟩ | ⟨id', rfl, h2, _⟩
          · cases h
          · simp only [sid, Option.some.injEq] at h; omega
        · skip
          try simp only [a, a', go_sem, Int.reduceTMod, Int.reduceTDiv, Int.reduceDiv, Int.reduceMod, Int.reduceAdd, Int.reduceSub, Int.reduceMul, Int.reduceNeg, Int.reducePow, Int.reduceEq, ↓reduceIte, Nat.reduceEqDiff, Nat.reduceAdd, Nat.reduceMul, Nat.reduceLeDiff, Nat.reduceSub, Nat.reduceLT, Int.reduceToNat, Int.reduceLT, Int.reduceLE, reduceCtorEq]
          repeat' ((first | refine FK_split (fun h_ => ?_) (fun h_ => ?_) | refine GK_split (fun h_ => ?_) (fun h_ => ?_) | refine ite_both (fun h_ => ?_) (fun h_ => ?_)) <;> (try simp only [decide_eq_true_eq, decide_eq_false_iff_not, Bool.not_true, Bool.not_false, Bool.not_eq_true', Bool.not_eq_false', Bool.not_eq_eq_eq_not, Decidable.not_not] at h_) <;> (try simp only [a, a', h_, go_sem, Int.reduceTMod, Int.reduceTDiv, Int.reduceDiv, Int.reduceMod, Int.reduceAdd, Int.reduceSub, Int.reduceMul, Int.reduceNeg, Int.reducePow, Int.reduceEq, ↓reduceIte, Nat.reduceEqDiff, Nat.reduceAdd, Nat.reduceMul, Nat.reduceLeDiff, Nat.reduceSub, Nat.reduceLT, Int.reduceToNat, Int.reduceLT, Int.reduceLE, reduceCtorEq]))
          rw [b, d]
          exact finb _ _ (by omega) f
    · have hwd : wayL l c = pln l l.length := by
        unfold wayL
        rw [if_neg (fun h => g ⟨h.1, h.2.1⟩)]
      cases c
      · skip
        try simp only [r14_0, r14_1, r14_2, r14_3, r14_4, r14_5, r14_6, r14_7, r14_9, r14_10, r14_11, r14_8, r14_12, c14, F14, hn2, hlen, go_sem, Int.reduceTMod, Int.reduceTDiv, Int.reduceDiv, Int.reduceMod, Int.reduceAdd, Int.reduceSub, Int.reduceMul, Int.reduceNeg, Int.reducePow, Int.reduceEq, ↓reduceIte, Nat.reduceEqDiff, Nat.reduceAdd, Nat.reduceMul, Nat.reduceLeDiff, Nat.reduceSub, Nat.reduceLT, Int.reduceToNat, Int.reduceLT, Int.reduceLE, reduceCtorEq]
        repeat' ((first | refine FK_split (fun h_ => ?_) (fun h_ => ?_) | refine GK_split (fun h_ => ?_) (fun h_ => ?_) | refine ite_both (fun h_ => ?_) (fun h_ => ?_)) <;> (try simp only [decide_eq_true_eq, decide_eq_false_iff_not, Bool.not_true, Bool.not_false, Bool.not_eq_true', Bool.not_eq_false', Bool.not_eq_eq_eq_not, Decidable.not_not] at h_) <;> (try simp only [r14_0, r14_1, r14_2, r14_3, r14_4, r14_5, r14_6, r14_7, r14_9, r14_10, r14_11, r14_8, r14_12, c14, F14, hn2, hlen, h_, go_sem, Int.reduceTMod, Int.reduceTDiv, Int.reduceDiv, Int.reduceMod, Int.reduceAdd, Int.reduceSub, Int.reduceMul, Int.reduceNeg, Int.reducePow, Int.reduceEq, ↓reduceIte, Nat.reduceEqDiff, Nat.reduceAdd, Nat.reduceMul, Nat.reduceLeDiff, Nat.reduceSub, Nat.reduceLT, Int.reduceToNat, Int.reduceLT, Int.reduceLE, reduceCtorEq]))
        refine plain hwd _ ?_ ?_ _ (fun s a b d f => ?_) (fun s a a' b d f => ?_)
        · simp only [go_sem, Int.reduceTMod, Int.reduceTDiv, Int.reduceDiv, Int.reduceMod, Int.reduceAdd, Int.reduceSub, Int.reduceMul, Int.reduceNeg, Int.reducePow, Int.reduceEq, ↓reduceIte, Nat.reduceEqDiff, Nat.reduceAdd, Nat.reduceMul, Nat.reduceLeDiff, Nat.reduceSub, Nat.reduceLT, Int.reduceToNat, Int.reduceLT, Int.reduceLE, reduceCtorEq]
        · simp only [go_sem, Int.reduceTMod, Int.reduceTDiv, Int.reduceDiv, Int.reduceMod, Int.reduceAdd, Int.reduceSub, Int.reduceMul, Int.reduceNeg, Int.reducePow, Int.reduceEq, ↓reduceIte, Nat.reduceEqDiff, Nat.reduceAdd, Nat.reduceMul, Nat.reduceLeDiff, Nat.reduceSub, Nat.reduceLT, Int.reduceToNat, Int.reduceLT, Int.reduceLE, reduceCtorEq]
        · skip
          try simp only [r14_0, r14_1, r14_2, r14_3, r14_4, r14_5, r14_6, r14_7, r14_9, r14_10, r14_11, r14_8, r14_12, c14, F14, a, go_sem, Int.reduceTMod, Int.reduceTDiv, Int.reduceDiv, Int.reduceMod, Int.reduceAdd, Int.reduceSub, Int.reduceMul, Int.reduceNeg, Int.reducePow, Int.reduceEq, ↓reduceIte, Nat.reduceEqDiff, Nat.reduceAdd, Nat.reduceMul, Nat.reduceLeDiff, Nat.reduceSub, Nat.reduceLT, Int.reduceToNat, Int.reduceLT, Int.reduceLE, reduceCtorEq]
          repeat' ((first | refine FK_split (fun h_ => ?_) (fun h_ => ?_) | refine GK_split (fun h_ => ?_) (fun h_ => ?_) | refine ite_both (fun h_ => ?_) (fun h_ => ?_)) <;> (try simp only [decide_eq_true_eq, decide_eq_false_iff_not, Bool.not_true, Bool.not_false, Bool.not_eq_true', Bool.not_eq_false', Bool.not_eq_eq_eq_not, Decidable.not_not] at h_) <;> (try simp only [r14_0, r14_1, r14_2, r14_3, r14_4, r14_5, r14_6, r14_7, r14_9, r14_10, r14_11, r14_8, r14_12, c14, F14, a, h_, go_sem, Int.reduceTMod, Int.reduceTDiv, Int.reduceDiv, Int.reduceMod, Int.reduceAdd, Int.reduceSub, Int.reduceMul, Int.reduceNeg, Int.reducePow, Int.reduceEq, ↓reduceIte, Nat.reduceEqDiff, Nat.reduceAdd, Nat.reduceMul, Nat.reduceLeDiff, Nat.reduceSub, Nat.reduceLT, Int.reduceToNat, Int.reduceLT, Int.reduceLE, reduceCtorEq]))
          rw [b, d]
          exact fin _ _ _ (by omega) (by rw [hwd]; exact hrl) (fun id h => osid h) f
        · skip
          try simp only [a, a', go_sem, Int.reduceTMod, Int.reduceTDiv, Int.reduceDiv, Int.reduceMod, Int.reduceAdd, Int.reduceSub, Int.reduceMul, Int.reduceNeg, Int.reducePow, Int.reduceEq, ↓reduceIte, Nat.reduceEqDiff, Nat.reduceAdd, Nat.reduceMul, Nat.reduceLeDiff, Nat.reduceSub, Nat.reduceLT, Int.reduceToNat, Int.reduceLT, Int.reduceLE, reduceCtorEq]
          repeat' ((first | refine FK_split (fun h_ => ?_) (fun h_ => ?_) | refine GK_split (fun h_ => ?_) (fun h_ => ?_) | refine ite_both (fun h_ => ?_) (fun h_ => ?_)) <;> (try simp only [decide_eq_true_eq, decide_eq_false_iff_not, Bool.not_true, Bool.not_false, Bool.not_eq_true', Bool.not_eq_false', Bool.not_eq_eq_eq_not, Decidable.not_not] at h_) <;> (try simp only [a, a', h_, go_sem, Int.reduceTMod, Int.reduceTDiv, Int.reduceDiv, Int.reduceMod, Int.reduceAdd, Int.reduceSub, Int.reduceMul, Int.reduceNeg, Int.reducePow, Int.reduceEq, ↓reduceIte, Nat.reduceEqDiff, Nat.reduceAdd, Nat.reduceMul, Nat.reduceLeDiff, Nat.reduceSub, Nat.reduceLT, Int.reduceToNat, Int.reduceLT, Int.reduceLE, reduceCtorEq]))
          rw [b, d]
          exact finb _ _ (by omega) f
      · have g1' : ((1 : Int) < ((pln l l.length).length : Int)) = False := eq_false (fun h => g ⟨rfl, by omega⟩)
        try simp only [r14_0, r14_1, r14_2, r14_3, r14_4, r14_5, r14_6, r14_7, r14_9, r14_10, r14_11, r14_8, r14_12, c14, F14, hn2, hlen, g1', go_sem, Int.reduceTMod, Int.reduceTDiv, Int.reduceDiv, Int.reduceMod, Int.reduceAdd, Int.reduceSub, Int.reduceMul, Int.reduceNeg, Int.reducePow, Int.reduceEq, ↓reduceIte, Nat.reduceEqDiff, Nat.reduceAdd, Nat.reduceMul, Nat.reduceLeDiff, Nat.reduceSub, Nat.reduceLT, Int.reduceToNat, Int.reduceLT, Int.reduceLE, reduceCtorEq]
        repeat' ((first | refine FK_split (fun h_ => ?_) (fun h_ => ?_) | refine GK_split (fun h_ => ?_) (fun h_ => ?_) | refine ite_both (fun h_ => ?_) (fun h_ => ?_)) <;> (try simp only [decide_eq_true_eq, decide_eq_false_iff_not, Bool.not_true, Bool.not_false, Bool.not_eq_true', Bool.not_eq_false', Bool.not_eq_eq_eq_not, Decidable.not_not] at h_) <;> (try simp only [r14_0, r14_1, r14_2, r14_3, r14_4, r14_5, r14_6, r14_7, r14_9, r14_10, r14_11, r14_8, r14_12, c14, F14, hn2, hlen, g1', h_, go_sem, Int.reduceTMod, Int.reduceTDiv, Int.reduceDiv, Int.reduceMod, Int.reduceAdd, Int.reduceSub, Int.reduceMul, Int.reduceNeg, Int.reducePow, Int.reduceEq, ↓reduceIte, Nat.reduceEqDiff, Nat.reduceAdd, Nat.reduceMul, Nat.reduceLeDiff, Nat.reduceSub, Nat.reduceLT, Int.reduceToNat, Int.reduceLT, Int.reduceLE, reduceCtorEq]))
        refine plain hwd _ ?_ ?_ _ (fun s a b d f => ?_) (fun s a a' b d f => ?_)
        · simp only [go_sem, Int.reduceTMod, Int.reduceTDiv, Int.reduceDiv, Int.reduceMod, Int.reduceAdd, Int.reduceSub, Int.reduceMul, Int.reduceNeg, Int.reducePow, Int.reduceEq, ↓reduceIte, Nat.reduceEqDiff, Nat.reduceAdd, Nat.reduceMul, Nat.reduceLeDiff, Nat.reduceSub, Nat.reduceLT, Int.reduceToNat, Int.reduceLT, Int.reduceLE, reduceCtorEq]
        · simp only [go_sem, Int.reduceTMod, Int.reduceTDiv, Int.reduceDiv, Int.reduceMod, Int.reduceAdd, Int.reduceSub, Int.reduceMul, Int.reduceNeg, Int.reducePow, Int.reduceEq, ↓reduceIte, Nat.reduceEqDiff, Nat.reduceAdd, Nat.reduceMul, Nat.reduceLeDiff, Nat.reduceSub, Nat.reduceLT, Int.reduceToNat, Int.reduceLT, Int.reduceLE, reduceCtorEq]
        · skip
          try simp only [r14_0, r14_1, r14_2, r14_3, r14_4, r14_5, r14_6, r14_7, r14_9, r14_10, r14_11, r14_8, r14_12, c14, F14, a, go_sem, Int.reduceTMod, Int.reduceTDiv, Int.reduceDiv, Int.reduceMod, Int.reduceAdd, Int.reduceSub, Int.reduceMul, Int.reduceNeg, Int.reducePow, Int.reduceEq, ↓reduceIte, Nat.reduceEqDiff, Nat.reduceAdd, Nat.reduceMul, Nat.reduceLeDiff, Nat.reduceSub, Nat.reduceLT, Int.reduceToNat, Int.reduceLT, Int.reduceLE, reduceCtorEq]
          repeat' ((first | refine FK_split (fun h_ => ?_) (fun h_ => ?_) | refine GK_split (fun h_ => ?_) (fun h_ => ?_) | refine ite_both (fun h_ => ?_) (fun h_ => ?_)) <;> (try simp only [decide_eq_true_eq, decide_eq_false_iff_not, Bool.not_true, Bool.not_false, Bool.not_eq_true', Bool.not_eq_false', Bool.not_eq_eq_eq_not, Decidable.not_not] at h_) <;> (try simp only [r14_0, r14_1, r14_2, r14_3, r14_4, r14_5, r14_6, r14_7, r14_9, r14_10, r14_11, r14_8, r14_12, c14, F14, a, h_, go_sem, Int.reduceTMod, Int.reduceTDiv, Int.reduceDiv, Int.reduceMod, Int.reduceAdd, Int.reduceSub, Int.reduceMul, Int.reduceNeg, Int.reducePow, Int.reduceEq, ↓reduceIte, Nat.reduceEqDiff, Nat.reduceAdd, Nat.reduceMul, Nat.reduceLeDiff, Nat.reduceSub, Nat.reduceLT, Int.reduceToNat, Int.reduceLT, Int.reduceLE, reduceCtorEq]))
          rw [b, d]
          exact fin _ _ _ (by omega) (by rw [hwd]; exact hrl) (fun id h => osid h) f
        · skip
          try simp only [a, a', go_sem, Int.reduceTMod, Int.reduceTDiv, Int.reduceDiv, Int.reduceMod, Int.reduceAdd, Int.reduceSub, Int.reduceMul, Int.reduceNeg, Int.reducePow, Int.reduceEq, ↓reduceIte, Nat.reduceEqDiff, Nat.reduceAdd, Nat.reduceMul, Nat.reduceLeDiff, Nat.reduceSub, Nat.reduceLT, Int.reduceToNat, Int.reduceLT, Int.reduceLE, reduceCtorEq]
          repeat' ((first | refine FK_split (fun h_ => ?_) (fun h_ => ?_) | refine GK_split (fun h_ => ?_) (fun h_ => ?_) | refine ite_both (fun h_ => ?_) (fun h_ => ?_)) <;> (try simp only [decide_eq_true_eq, decide_eq_false_iff_not, Bool.not_true, Bool.not_false, Bool.not_eq_true', Bool.not_eq_false', Bool.not_eq_eq_eq_not, Decidable.not_not] at h_) <;> (try simp only [a, a', h_, go_sem, Int.reduceTMod, Int.reduceTDiv, Int.reduceDiv, Int.reduceMod, Int.reduceAdd, Int.reduceSub, Int.reduceMul, Int.reduceNeg, Int.reducePow, Int.reduceEq, ↓reduceIte, Nat.reduceEqDiff, Nat.reduceAdd, Nat.reduceMul, Nat.reduceLeDiff, Nat.reduceSub, Nat.reduceLT, Int.reduceToNat, Int.reduceLT, Int.reduceLE, reduceCtorEq]))
          rw [b, d]
          exact finb _ _ (by omega) f

/- The law DashWays walked. Conditions: those that each theorem names. -/
open Go Go.Proofs
set_option linter.unusedSimpArgs false
set_option linter.unusedVariables false

theorem OL.sidge {base : Nat} {m : Mem} {n : Nat} {r : Reg} {l : List Pt} (h : OPt base m n r l) {id : Nat} (hi : sid r = some id) : base ≤ id := by
  rcases h with ⟨rfl, _⟩ | ⟨id', rfl, h2, _⟩
  · cases hi
  · simp only [sid, Option.some.injEq] at hi; omega
theorem way_len (l : List Pt) (c : Bool) : (wayL l c).length ≤ l.length + 1 := by
  have := pln_len l l.length
  unfold wayL
  split
  · rw [List.length_append, List.length_take]; omega
  · omega
set_option maxHeartbeats 1000000 in
theorem law4 (c0 : Cell) (l : List Pt) (c : Bool) (m : Mem) (n : Nat) (hr : RPt m n (.one c0) l) : Fn TA 4 [.agg [c0, .sc (.bool c)]] m n (fun r _ _ => r = RB true) := by
  refine Fn_ofK (fn := F4) rfl (by simp [F4]) ?_
  have hlen := hr.len
  obtain ⟨M0, hM0⟩ : ∃ M0, M0 = upd m n (some ⟨[c0, .sc (.bool c)], true⟩) := ⟨_, rfl⟩
  have hr0 : RPt M0 (n + 1) (.one c0) l := hr.keep (by omega) (fun id hid => by rw [hM0]; exact upd_ne _ _ (by omega))
  have hn0 : M0 n = some ⟨[c0, .sc (.bool c)], true⟩ := by rw [hM0]; exact upd_same _ _ _
  by_cases g : 60 < (l.length : Int)
  · skip
    try simp only [r4_0, r4_1, r4_2, r4_3, r4_4, r4_5, r4_6, r4_7, r4_8, r4_9, r4_10, c4, F4, hlen, g, v_awake, go_sem, Int.reduceTMod, Int.reduceTDiv, Int.reduceDiv, Int.reduceMod, Int.reduceAdd, Int.reduceSub, Int.reduceMul, Int.reduceNeg, Int.reducePow, Int.reduceEq, ↓reduceIte, Nat.reduceEqDiff, Nat.reduceAdd, Nat.reduceMul, Nat.reduceLeDiff, Nat.reduceSub, Nat.reduceLT, Int.reduceToNat, Int.reduceLT, Int.reduceLE, reduceCtorEq]
    repeat' ((first | refine FK_split (fun h_ => ?_) (fun h_ => ?_) | refine GK_split (fun h_ => ?_) (fun h_ => ?_) | refine ite_both (fun h_ => ?_) (fun h_ => ?_)) <;> (try simp only [decide_eq_true_eq, decide_eq_false_iff_not, Bool.not_true, Bool.not_false, Bool.not_eq_true', Bool.not_eq_false', Bool.not_eq_eq_eq_not, Decidable.not_not] at h_) <;> (try simp only [r4_0, r4_1, r4_2, r4_3, r4_4, r4_5, r4_6, r4_7, r4_8, r4_9, r4_10, c4, F4, hlen, g, v_awake, h_, go_sem, Int.reduceTMod, Int.reduceTDiv, Int.reduceDiv, Int.reduceMod, Int.reduceAdd, Int.reduceSub, Int.reduceMul, Int.reduceNeg, Int.reducePow, Int.reduceEq, ↓reduceIte, Nat.reduceEqDiff, Nat.reduceAdd, Nat.reduceMul, Nat.reduceLeDiff, Nat.reduceSub, Nat.reduceLT, Int.reduceToNat, Int.reduceLT, Int.reduceLE, reduceCtorEq]))
  · skip
    try simp only [r4_0, r4_1, r4_2, r4_3, r4_4, r4_5, r4_6, r4_7, r4_8, r4_9, r4_10, c4, F4, hlen, g, go_sem, Int.reduceTMod, Int.reduceTDiv, Int.reduceDiv, Int.reduceMod, Int.reduceAdd, Int.reduceSub, Int.reduceMul, Int.reduceNeg, Int.reducePow, Int.reduceEq, ↓reduceIte, Nat.reduceEqDiff, Nat.reduceAdd, Nat.reduceMul, Nat.reduceLeDiff, Nat.reduceSub, Nat.reduceLT, Int.reduceToNat, Int.reduceLT, Int.reduceLE, reduceCtorEq]
    repeat' ((first | refine FK_split (fun h_ => ?_) (fun h_ => ?_) | refine GK_split (fun h_ => ?_) (fun h_ => ?_) | refine ite_both (fun h_ => ?_) (fun h_ => ?_)) <;> (try simp only [decide_eq_true_eq, decide_eq_false_iff_not, Bool.not_true, Bool.not_false, Bool.not_eq_true', Bool.not_eq_false', Bool.not_eq_eq_eq_not, Decidable.not_not] at h_) <;> (try simp only [r4_0, r4_1, r4_2, r4_3, r4_4, r4_5, r4_6, r4_7, r4_8, r4_9, r4_10, c4, F4, hlen, g, h_, go_sem, Int.reduceTMod, Int.reduceTDiv, Int.reduceDiv, Int.reduceMod, Int.reduceAdd, Int.reduceSub, Int.reduceMul, Int.reduceNeg, Int.reducePow, Int.reduceEq, ↓reduceIte, Nat.reduceEqDiff, Nat.reduceAdd, Nat.reduceMul, Nat.reduceLeDiff, Nat.reduceSub, Nat.reduceLT, Int.reduceToNat, Int.reduceLT, Int.reduceLE, reduceCtorEq]))
    rw [← hM0]
    refine RK_callk ?_
    refine (w_refs _ l _ _ hr0.frz (by omega)).mono ?_
    rintro r1 m1 n1 ⟨ho1, hn1⟩
    obtain ⟨M1, hM1⟩ : ∃ M1, M1 = unfrz M0 (n + 1) m1 := ⟨_, rfl⟩
    rw [← hM1, show max (n + 1) n1 = n1 by omega]
    have hr1 : RPt M1 n1 (.one c0) l := hr0.keep hn1 (fun id hid => by rw [hM1, unfrz_at, if_pos hid])
    have hx1 : RPt M1 n1 r1 l := (ho1.rl cs2).keep' (Nat.le_refl _) (fun id hid => by rw [hM1, unfrz_at, if_neg (by have := ho1.sidge hid; omega)])
    have hb1 : M1 n = some ⟨[c0, .sc (.bool c)], true⟩ := by rw [hM1, unfrz_at, if_pos (by omega)]; exact hn0
    try simp only [r4_0, r4_1, r4_2, r4_3, r4_4, r4_5, r4_6, r4_7, r4_8, r4_9, r4_10, c4, F4, hb1, rd_of hb1, go_sem, Int.reduceTMod, Int.reduceTDiv, Int.reduceDiv, Int.reduceMod, Int.reduceAdd, Int.reduceSub, Int.reduceMul, Int.reduceNeg, Int.reducePow, Int.reduceEq, ↓reduceIte, Nat.reduceEqDiff, Nat.reduceAdd, Nat.reduceMul, Nat.reduceLeDiff, Nat.reduceSub, Nat.reduceLT, Int.reduceToNat, Int.reduceLT, Int.reduceLE, reduceCtorEq]
    repeat' ((first | refine FK_split (fun h_ => ?_) (fun h_ => ?_) | refine GK_split (fun h_ => ?_) (fun h_ => ?_) | refine ite_both (fun h_ => ?_) (fun h_ => ?_)) <;> (try simp only [decide_eq_true_eq, decide_eq_false_iff_not, Bool.not_true, Bool.not_false, Bool.not_eq_true', Bool.not_eq_false', Bool.not_eq_eq_eq_not, Decidable.not_not] at h_) <;> (try simp only [r4_0, r4_1, r4_2, r4_3, r4_4, r4_5, r4_6, r4_7, r4_8, r4_9, r4_10, c4, F4, hb1, rd_of hb1, h_, go_sem, Int.reduceTMod, Int.reduceTDiv, Int.reduceDiv, Int.reduceMod, Int.reduceAdd, Int.reduceSub, Int.reduceMul, Int.reduceNeg, Int.reducePow, Int.reduceEq, ↓reduceIte, Nat.reduceEqDiff, Nat.reduceAdd, Nat.reduceMul, Nat.reduceLeDiff, Nat.reduceSub, Nat.reduceLT, Int.reduceToNat, Int.reduceLT, Int.reduceLE, reduceCtorEq]))
    refine RK_callk ?_
    refine (w_Way c0 l c _ _ hr1.frz (by omega)).mono ?_
    rintro r2 m2 n2 ⟨hn2, x, k, rfl, hq1, hq2, hq3⟩
    obtain ⟨M2, hM2⟩ : ∃ M2, M2 = unfrz M1 n1 m2 := ⟨_, rfl⟩
    rw [← hM2, show max n1 n2 = n2 by omega]
    have hr2 : RPt M2 n2 (.one c0) l := hr1.keep hn2 (fun id hid => by rw [hM2, unfrz_at, if_pos hid])
    have hx2 : RPt M2 n2 r1 l := hx1.keep hn2 (fun id hid => by rw [hM2, unfrz_at, if_pos hid])
    have hb2 : M2 n = some ⟨[c0, .sc (.bool c)], true⟩ := by rw [hM2, unfrz_at, if_pos (by omega)]; exact hb1
    have v1 := v_In07 r1 l (frz M2) n2 hx2.frz (by omega)
    cases hi : l.all inP
    · obtain ⟨rfl, rfl⟩ := hq1 hi
      rw [hi] at v1
      try simp only [r4_0, r4_1, r4_2, r4_3, r4_4, r4_5, r4_6, r4_7, r4_8, r4_9, r4_10, c4, F4, v1, v_awake, go_sem, Int.reduceTMod, Int.reduceTDiv, Int.reduceDiv, Int.reduceMod, Int.reduceAdd, Int.reduceSub, Int.reduceMul, Int.reduceNeg, Int.reducePow, Int.reduceEq, ↓reduceIte, Nat.reduceEqDiff, Nat.reduceAdd, Nat.reduceMul, Nat.reduceLeDiff, Nat.reduceSub, Nat.reduceLT, Int.reduceToNat, Int.reduceLT, Int.reduceLE, reduceCtorEq]
      repeat' ((first | refine FK_split (fun h_ => ?_) (fun h_ => ?_) | refine GK_split (fun h_ => ?_) (fun h_ => ?_) | refine ite_both (fun h_ => ?_) (fun h_ => ?_)) <;> (try simp only [decide_eq_true_eq, decide_eq_false_iff_not, Bool.not_true, Bool.not_false, Bool.not_eq_true', Bool.not_eq_false', Bool.not_eq_eq_eq_not, Decidable.not_not] at h_) <;> (try simp only [r4_0, r4_1, r4_2, r4_3, r4_4, r4_5, r4_6, r4_7, r4_8, r4_9, r4_10, c4, F4, v1, v_awake, h_, go_sem, Int.reduceTMod, Int.reduceTDiv, Int.reduceDiv, Int.reduceMod, Int.reduceAdd, Int.reduceSub, Int.reduceMul, Int.reduceNeg, Int.reducePow, Int.reduceEq, ↓reduceIte, Nat.reduceEqDiff, Nat.reduceAdd, Nat.reduceMul, Nat.reduceLeDiff, Nat.reduceSub, Nat.reduceLT, Int.reduceToNat, Int.reduceLT, Int.reduceLE, reduceCtorEq]))
    · rw [hi] at v1
      try simp only [r4_0, r4_1, r4_2, r4_3, r4_4, r4_5, r4_6, r4_7, r4_8, r4_9, r4_10, c4, F4, v1, hb2, rd_of hb2, go_sem, Int.reduceTMod, Int.reduceTDiv, Int.reduceDiv, Int.reduceMod, Int.reduceAdd, Int.reduceSub, Int.reduceMul, Int.reduceNeg, Int.reducePow, Int.reduceEq, ↓reduceIte, Nat.reduceEqDiff, Nat.reduceAdd, Nat.reduceMul, Nat.reduceLeDiff, Nat.reduceSub, Nat.reduceLT, Int.reduceToNat, Int.reduceLT, Int.reduceLE, reduceCtorEq]
      repeat' ((first | refine FK_split (fun h_ => ?_) (fun h_ => ?_) | refine GK_split (fun h_ => ?_) (fun h_ => ?_) | refine ite_both (fun h_ => ?_) (fun h_ => ?_)) <;> (try simp only [decide_eq_true_eq, decide_eq_false_iff_not, Bool.not_true, Bool.not_false, Bool.not_eq_true', Bool.not_eq_false', Bool.not_eq_eq_eq_not, Decidable.not_not] at h_) <;> (try simp only [r4_0, r4_1, r4_2, r4_3, r4_4, r4_5, r4_6, r4_7, r4_8, r4_9, r4_10, c4, F4, v1, hb2, rd_of hb2, h_, go_sem, Int.reduceTMod, Int.reduceTDiv, Int.reduceDiv, Int.reduceMod, Int.reduceAdd, Int.reduceSub, Int.reduceMul, Int.reduceNeg, Int.reducePow, Int.reduceEq, ↓reduceIte, Nat.reduceEqDiff, Nat.reduceAdd, Nat.reduceMul, Nat.reduceLeDiff, Nat.reduceSub, Nat.reduceLT, Int.reduceToNat, Int.reduceLT, Int.reduceLE, reduceCtorEq]))
      refine RK_callk ?_
      refine (w_rWay r1 l c _ _ hx2.frz hi (by omega)).mono ?_
      rintro r3 m3 n3 ⟨hn3, y, rfl, hp1, hp2⟩
      obtain ⟨M3, hM3⟩ : ∃ M3, M3 = unfrz M2 n2 m3 := ⟨_, rfl⟩
      rw [← hM3, show max n2 n3 = n3 by omega]
      have hr3 : RPt M3 n3 (.one c0) l := hr2.keep hn3 (fun id hid => by rw [hM3, unfrz_at, if_pos hid])
      have hx3 : RPt M3 n3 r1 l := hx2.keep hn3 (fun id hid => by rw [hM3, unfrz_at, if_pos hid])
      have hb3 : M3 n = some ⟨[c0, .sc (.bool c)], true⟩ := by rw [hM3, unfrz_at, if_pos (by omega)]; exact hb2
      cases hlg : anyLg (wayL l c) (wayL l c).length
      · obtain ⟨rfl, hy1, hy2⟩ := hq3 hi hlg
        obtain ⟨hz1, hz2⟩ := hp2 hlg
        have hwl := way_len l c
        have hy3 : RPt M2 n2 x (wayL l c) := hy1.keep' (Nat.le_refl _) (fun id hid => by rw [hM2, unfrz_at, if_neg (by have := hy2 id hid; omega)])
        have hy4 : RPt M3 n3 x (wayL l c) := hy3.keep hn3 (fun id hid => by rw [hM3, unfrz_at, if_pos hid])
        have hz3 : RPt M3 n3 y (wayL l c) := hz1.keep' (Nat.le_refl _) (fun id hid => by rw [hM3, unfrz_at, if_neg (by have := hz2 id hid; omega)])
        have s1 := v_same x y _ _ (frz M3) n3 hy4.frz hz3.frz (by omega)
        have s2 := v_same (.one c0) r1 _ _ (frz M3) n3 hr3.frz hx3.frz (by omega)
        rw [decide_eq_true rfl] at s1 s2
        try simp only [r4_0, r4_1, r4_2, r4_3, r4_4, r4_5, r4_6, r4_7, r4_8, r4_9, r4_10, c4, F4, hlg, hb3, rd_of hb3, s1, s2, v_awake, go_sem, Int.reduceTMod, Int.reduceTDiv, Int.reduceDiv, Int.reduceMod, Int.reduceAdd, Int.reduceSub, Int.reduceMul, Int.reduceNeg, Int.reducePow, Int.reduceEq, ↓reduceIte, Nat.reduceEqDiff, Nat.reduceAdd, Nat.reduceMul, Nat.reduceLeDiff, Nat.reduceSub, Nat.reduceLT, Int.reduceToNat, Int.reduceLT, Int.reduceLE, reduceCtorEq]
        repeat' ((first | refine FK_split (fun h_ => ?_) (fun h_ => ?_) | refine GK_split (fun h_ => ?_) (fun h_ => ?_) | refine ite_both (fun h_ => ?_) (fun h_ => ?_)) <;> (try simp only [decide_eq_true_eq, decide_eq_false_iff_not, Bool.not_true, Bool.not_false, Bool.not_eq_true', Bool.not_eq_false', Bool.not_eq_eq_eq_not, Decidable.not_not] at h_) <;> (try simp only [r4_0, r4_1, r4_2, r4_3, r4_4, r4_5, r4_6, r4_7, r4_8, r4_9, r4_10, c4, F4, hlg, hb3, rd_of hb3, s1, s2, v_awake, h_, go_sem, Int.reduceTMod, Int.reduceTDiv, Int.reduceDiv, Int.reduceMod, Int.reduceAdd, Int.reduceSub, Int.reduceMul, Int.reduceNeg, Int.reducePow, Int.reduceEq, ↓reduceIte, Nat.reduceEqDiff, Nat.reduceAdd, Nat.reduceMul, Nat.reduceLeDiff, Nat.reduceSub, Nat.reduceLT, Int.reduceToNat, Int.reduceLT, Int.reduceLE, reduceCtorEq]))
      · obtain ⟨rfl, rfl⟩ := hq2 hi hlg
        try simp only [r4_0, r4_1, r4_2, r4_3, r4_4, r4_5, r4_6, r4_7, r4_8, r4_9, r4_10, c4, F4, hlg, v_awake, go_sem, Int.reduceTMod, Int.reduceTDiv, Int.reduceDiv, Int.reduceMod, Int.reduceAdd, Int.reduceSub, Int.reduceMul, Int.reduceNeg, Int.reducePow, Int.reduceEq, ↓reduceIte, Nat.reduceEqDiff, Nat.reduceAdd, Nat.reduceMul, Nat.reduceLeDiff, Nat.reduceSub, Nat.reduceLT, Int.reduceToNat, Int.reduceLT, Int.reduceLE, reduceCtorEq]
        repeat' ((first | refine FK_split (fun h_ => ?_) (fun h_ => ?_) | refine GK_split (fun h_ => ?_) (fun h_ => ?_) | refine ite_both (fun h_ => ?_) (fun h_ => ?_)) <;> (try simp only [decide_eq_true_eq, decide_eq_false_iff_not, Bool.not_true, Bool.not_false, Bool.not_eq_true', Bool.not_eq_false', Bool.not_eq_eq_eq_not, Decidable.not_not] at h_) <;> (try simp only [r4_0, r4_1, r4_2, r4_3, r4_4, r4_5, r4_6, r4_7, r4_8, r4_9, r4_10, c4, F4, hlg, v_awake, h_, go_sem, Int.reduceTMod, Int.reduceTDiv, Int.reduceDiv, Int.reduceMod, Int.reduceAdd, Int.reduceSub, Int.reduceMul, Int.reduceNeg, Int.reducePow, Int.reduceEq, ↓reduceIte, Nat.reduceEqDiff, Nat.reduceAdd, Nat.reduceMul, Nat.reduceLeDiff, Nat.reduceSub, Nat.reduceLT, Int.reduceToNat, Int.reduceLT, Int.reduceLE, reduceCtorEq]))

/- Patterns walked (chapter 09): the reference's answer. Conditions: those that each theorem names. -/
open Go Go.Proofs
set_option linter.unusedSimpArgs false
set_option linter.unusedVariables false

abbrev encI (x : Int) : List Cell := [I x]
abbrev RIn := RL encI 1
theorem ci1 (x : Int) : (encI x).length = 1 := rfl
theorem RL.int {m : Mem} {n : Nat} {r : Reg} {l : List Int} {i : Nat} {x : Int} (h : RIn m n r l) (hi : l[i]? = some x) :
    ∃ id off cap b, r = .one (.sl id off l.length cap 1) ∧ id < n ∧ m id = some b ∧ b.cells[off + i]? = some (I x) := by
  obtain ⟨id, off, cap, h1, h2, h3⟩ := h.at ci1 hi
  obtain ⟨b, h4, h5⟩ := rd_cell h3 (a := 0) (c := I x) rfl
  exact ⟨id, off, cap, b, h1, h2, h4, by rw [Nat.mul_one, Nat.add_zero] at h5; exact h5⟩
def okD (x : Int) : Bool := decide (1 ≤ x) && decide (x ≤ 1048576)
theorem okD_iff {x : Int} : okD x = true ↔ 1 ≤ x ∧ x ≤ 1048576 := by simp [okD]
def rightB (l : List Int) (ph : Int) : Bool :=
  if l = [] then decide (ph = 0) else if l.length = 2 ∨ l.length = 4 ∨ l.length = 6 ∨ l.length = 8 then l.all okD && (decide (0 ≤ ph) && decide (ph < l.sum)) else false
theorem sum_snoc {l : List Int} {i : Nat} {x : Int} (hx : l[i]? = some x) : (l.take (i + 1)).sum = (l.take i).sum + x := by
  rw [List.take_add_one, hx]
  simp
theorem allD_snoc {l : List Int} {i : Nat} {x : Int} (hx : l[i]? = some x) : (l.take (i + 1)).all okD = ((l.take i).all okD && okD x) := by
  rw [List.take_add_one, hx, List.all_append]
  simp
theorem sum_bd : ∀ (l : List Int), l.all okD = true → 0 ≤ l.sum ∧ l.sum ≤ 1048576 * (l.length : Int)
  | [], _ => by simp
  | x :: l, h => by
    simp only [List.all_cons, Bool.and_eq_true] at h
    have := sum_bd l h.2
    have h1 := okD_iff.1 h.1
    simp only [List.sum_cons, List.length_cons]
    omega
theorem v_RightA (r : Reg) (l : List Int) (ph : Int) (m : Mem) (n : Nat) (hr : RIn m n r l) : callF TA 10 [r, RI ph] m n = some (RB (rightB l ph)) := by
  refine callF_of (Fn_ofK (fn := F10) rfl (by simp [F10]) ?_)
  have hlen := hr.len
  by_cases g0 : l.length = 0
  · have e : l = [] := List.length_eq_zero_iff.1 g0
    have e2 : rightB l ph = decide (ph = 0) := by unfold rightB; rw [if_pos e]
    have g0' : ((l.length : Int) = 0) = True := eq_true (by omega)
    try simp only [r10_0, r10_1, r10_2, r10_3, r10_4, r10_5, r10_6, r10_7, r10_9, r10_10, r10_11, r10_8, r10_12, c10, F10, hlen, g0', e2, go_sem, Int.reduceTMod, Int.reduceTDiv, Int.reduceDiv, Int.reduceMod, Int.reduceAdd, Int.reduceSub, Int.reduceMul, Int.reduceNeg, Int.reducePow, Int.reduceEq, ↓reduceIte, Nat.reduceEqDiff, Nat.reduceAdd, Nat.reduceMul, Nat.reduceLeDiff, Nat.reduceSub, Nat.reduceLT, Int.reduceToNat, Int.reduceLT, Int.reduceLE, reduceCtorEq]
    repeat' ((first | refine FK_split (fun h_ => ?_) (fun h_ => ?_) | refine GK_split (fun h_ => ?_) (fun h_ => ?_) | refine ite_both (fun h_ => ?_) (fun h_ => ?_)) <;> (try simp only [decide_eq_true_eq, decide_eq_false_iff_not, Bool.not_true, Bool.not_false, Bool.not_eq_true', Bool.not_eq_false', Bool.not_eq_eq_eq_not, Decidable.not_not] at h_) <;> (try simp only [r10_0, r10_1, r10_2, r10_3, r10_4, r10_5, r10_6, r10_7, r10_9, r10_10, r10_11, r10_8, r10_12, c10, F10, hlen, g0', e2, h_, go_sem, Int.reduceTMod, Int.reduceTDiv, Int.reduceDiv, Int.reduceMod, Int.reduceAdd, Int.reduceSub, Int.reduceMul, Int.reduceNeg, Int.reducePow, Int.reduceEq, ↓reduceIte, Nat.reduceEqDiff, Nat.reduceAdd, Nat.reduceMul, Nat.reduceLeDiff, Nat.reduceSub, Nat.reduceLT, Int.reduceToNat, Int.reduceLT, Int.reduceLE, reduceCtorEq]))
  · have g0' : ((l.length : Int) = 0) = False := eq_false (by omega)
    have e : ¬ l = [] := fun h => g0 (by rw [h]; rfl)
    by_cases g1 : l.length = 2 ∨ l.length = 4 ∨ l.length = 6 ∨ l.length = 8
    · have e2 : rightB l ph = (l.all okD && (decide (0 ≤ ph) && decide (ph < l.sum))) := by unfold rightB; rw [if_neg e, if_pos g1]
      rw [e2]
      have hloop : ∀ s : St, s.e 6 = RI ((0 : Nat) : Int) → s.e 5 = RI 0 → s.e 0 = r → s.e 1 = RI ph → s.m = m → s.n = n → XK TA (.loop l10_0) s (.blk 0 (.seq (.seq (.reg r10_12) .ret) (.fin F10.res fun r' _ _ => r' = RB (l.all okD && (decide (0 ≤ ph) && decide (ph < l.sum)))))) := by
        intro s0 w6 w5 w0 w1 wm wn
        refine XK_iter (inv := fun i s => s.e 6 = RI i ∧ s.e 5 = RI (l.take i).sum ∧ s.e 0 = r ∧ s.e 1 = RI ph ∧ s.m = m ∧ s.n = n ∧ (l.take i).all okD = true) l.length
          (fun L _ => ⟨fun i hi s hs next => ?_, fun s hs => ?_⟩) 0 (by omega) _ ?_
        · obtain ⟨q6, q5, q0, q1, qm, qn, qa⟩ := hs
          have hx : l[i]? = some l[i] := List.getElem?_eq_getElem hi
          obtain ⟨id, off, cap, b, hr1, hid, hb, hc⟩ := RL.int hr hx
          generalize l[i] = x at *
          have c2 : ((i : Int) < (l.length : Int)) = True := eq_true (by omega)
          have c3 : (0 ≤ (i : Int)) = True := eq_true (by omega)
          have c7 : IntKind.i64.wrap ((i : Int) + 1) = ((i + 1 : Nat) : Int) := wr_nat (by omega)
          have hs1 := sum_snoc hx
          have ha1 := allD_snoc hx
          rw [hr1] at q0
          cases hk : okD x with
          | true =>
            have hk' := okD_iff.1 hk
            have d1 : (x < 1) = False := eq_false (by omega)
            have d2 : (1048576 < x) = False := eq_false (by omega)
            have sb := sum_bd _ qa
            have hlt : (l.take i).length ≤ 8 := by rw [List.length_take]; omega
            have w : IntKind.i64.wrap ((l.take i).sum + x) = (l.take i).sum + x := wr_eq (by omega) (by omega)
            try simp only [r10_0, r10_1, r10_2, r10_3, r10_4, r10_5, r10_6, r10_7, r10_9, r10_10, r10_11, r10_8, r10_12, c10, F10, l10_0, q6, q5, q0, q1, qm, qn, c2, c3, c7, hb, hc, d1, d2, w, Int.toNat_natCast, Nat.mul_one, go_sem, Int.reduceTMod, Int.reduceTDiv, Int.reduceDiv, Int.reduceMod, Int.reduceAdd, Int.reduceSub, Int.reduceMul, Int.reduceNeg, Int.reducePow, Int.reduceEq, ↓reduceIte, Nat.reduceEqDiff, Nat.reduceAdd, Nat.reduceMul, Nat.reduceLeDiff, Nat.reduceSub, Nat.reduceLT, Int.reduceToNat, Int.reduceLT, Int.reduceLE, reduceCtorEq]
            repeat' ((first | refine FK_split (fun h_ => ?_) (fun h_ => ?_) | refine GK_split (fun h_ => ?_) (fun h_ => ?_) | refine ite_both (fun h_ => ?_) (fun h_ => ?_)) <;> (try simp only [decide_eq_true_eq, decide_eq_false_iff_not, Bool.not_true, Bool.not_false, Bool.not_eq_true', Bool.not_eq_false', Bool.not_eq_eq_eq_not, Decidable.not_not] at h_) <;> (try simp only [r10_0, r10_1, r10_2, r10_3, r10_4, r10_5, r10_6, r10_7, r10_9, r10_10, r10_11, r10_8, r10_12, c10, F10, l10_0, q6, q5, q0, q1, qm, qn, c2, c3, c7, hb, hc, d1, d2, w, Int.toNat_natCast, Nat.mul_one, h_, go_sem, Int.reduceTMod, Int.reduceTDiv, Int.reduceDiv, Int.reduceMod, Int.reduceAdd, Int.reduceSub, Int.reduceMul, Int.reduceNeg, Int.reducePow, Int.reduceEq, ↓reduceIte, Nat.reduceEqDiff, Nat.reduceAdd, Nat.reduceMul, Nat.reduceLeDiff, Nat.reduceSub, Nat.reduceLT, Int.reduceToNat, Int.reduceLT, Int.reduceLE, reduceCtorEq]))
            refine next _ ⟨?_, ?_, ?_, ?_, ?_, ?_, ?_⟩
            all_goals simp only [q6, q5, q0, q1, qm, qn, hr1, hs1, ha1, qa, hk, go_sem, Int.reduceTMod, Int.reduceTDiv, Int.reduceDiv, Int.reduceMod, Int.reduceAdd, Int.reduceSub, Int.reduceMul, Int.reduceNeg, Int.reducePow, Int.reduceEq, ↓reduceIte, Nat.reduceEqDiff, Nat.reduceAdd, Nat.reduceMul, Nat.reduceLeDiff, Nat.reduceSub, Nat.reduceLT, Int.reduceToNat, Int.reduceLT, Int.reduceLE, reduceCtorEq]
          | false =>
            have hl0 : l.all okD = false := by
              rw [List.all_eq_false]
              exact ⟨x, List.mem_of_getElem? hx, by simp [hk]⟩
            by_cases d1 : x < 1
            · skip
              try simp only [r10_0, r10_1, r10_2, r10_3, r10_4, r10_5, r10_6, r10_7, r10_9, r10_10, r10_11, r10_8, r10_12, c10, F10, l10_0, q6, q5, q0, q1, qm, qn, c2, c3, c7, hb, hc, d1, hl0, Int.toNat_natCast, Nat.mul_one, go_sem, Int.reduceTMod, Int.reduceTDiv, Int.reduceDiv, Int.reduceMod, Int.reduceAdd, Int.reduceSub, Int.reduceMul, Int.reduceNeg, Int.reducePow, Int.reduceEq, ↓reduceIte, Nat.reduceEqDiff, Nat.reduceAdd, Nat.reduceMul, Nat.reduceLeDiff, Nat.reduceSub, Nat.reduceLT, Int.reduceToNat, Int.reduceLT, Int.reduceLE, reduceCtorEq]
              repeat' ((first | refine FK_split (fun h_ => ?_) (fun h_ => ?_) | refine GK_split (fun h_ => ?_) (fun h_ => ?_) | refine ite_both (fun h_ => ?_) (fun h_ => ?_)) <;> (try simp only [decide_eq_true_eq, decide_eq_false_iff_not, Bool.not_true, Bool.not_false, Bool.not_eq_true', Bool.not_eq_false', Bool.not_eq_eq_eq_not, Decidable.not_not] at h_) <;> (try simp only [r10_0, r10_1, r10_2, r10_3, r10_4, r10_5, r10_6, r10_7, r10_9, r10_10, r10_11, r10_8, r10_12, c10, F10, l10_0, q6, q5, q0, q1, qm, qn, c2, c3, c7, hb, hc, d1, hl0, Int.toNat_natCast, Nat.mul_one, h_, go_sem, Int.reduceTMod, Int.reduceTDiv, Int.reduceDiv, Int.reduceMod, Int.reduceAdd, Int.reduceSub, Int.reduceMul, Int.reduceNeg, Int.reducePow, Int.reduceEq, ↓reduceIte, Nat.reduceEqDiff, Nat.reduceAdd, Nat.reduceMul, Nat.reduceLeDiff, Nat.reduceSub, Nat.reduceLT, Int.reduceToNat, Int.reduceLT, Int.reduceLE, reduceCtorEq]))
            · have d2 : (1048576 < x) = True := eq_true (by
                have : ¬ (1 ≤ x ∧ x ≤ 1048576) := fun h => by rw [okD_iff.2 h] at hk; cases hk
                omega)
              try simp only [r10_0, r10_1, r10_2, r10_3, r10_4, r10_5, r10_6, r10_7, r10_9, r10_10, r10_11, r10_8, r10_12, c10, F10, l10_0, q6, q5, q0, q1, qm, qn, c2, c3, c7, hb, hc, d1, d2, hl0, Int.toNat_natCast, Nat.mul_one, go_sem, Int.reduceTMod, Int.reduceTDiv, Int.reduceDiv, Int.reduceMod, Int.reduceAdd, Int.reduceSub, Int.reduceMul, Int.reduceNeg, Int.reducePow, Int.reduceEq, ↓reduceIte, Nat.reduceEqDiff, Nat.reduceAdd, Nat.reduceMul, Nat.reduceLeDiff, Nat.reduceSub, Nat.reduceLT, Int.reduceToNat, Int.reduceLT, Int.reduceLE, reduceCtorEq]
              repeat' ((first | refine FK_split (fun h_ => ?_) (fun h_ => ?_) | refine GK_split (fun h_ => ?_) (fun h_ => ?_) | refine ite_both (fun h_ => ?_) (fun h_ => ?_)) <;> (try simp only [decide_eq_true_eq, decide_eq_false_iff_not, Bool.not_true, Bool.not_false, Bool.not_eq_true', Bool.not_eq_false', Bool.not_eq_eq_eq_not, Decidable.not_not] at h_) <;> (try simp only [r10_0, r10_1, r10_2, r10_3, r10_4, r10_5, r10_6, r10_7, r10_9, r10_10, r10_11, r10_8, r10_12, c10, F10, l10_0, q6, q5, q0, q1, qm, qn, c2, c3, c7, hb, hc, d1, d2, hl0, Int.toNat_natCast, Nat.mul_one, h_, go_sem, Int.reduceTMod, Int.reduceTDiv, Int.reduceDiv, Int.reduceMod, Int.reduceAdd, Int.reduceSub, Int.reduceMul, Int.reduceNeg, Int.reducePow, Int.reduceEq, ↓reduceIte, Nat.reduceEqDiff, Nat.reduceAdd, Nat.reduceMul, Nat.reduceLeDiff, Nat.reduceSub, Nat.reduceLT, Int.reduceToNat, Int.reduceLT, Int.reduceLE, reduceCtorEq]))
        · obtain ⟨q6, q5, q0, q1, qm, qn, qa⟩ := hs
          have c2 : ((l.length : Int) < (l.length : Int)) = False := eq_false (by omega)
          rw [List.take_length] at qa q5
          by_cases p1 : 0 ≤ ph
          · skip
            try simp only [r10_0, r10_1, r10_2, r10_3, r10_4, r10_5, r10_6, r10_7, r10_9, r10_10, r10_11, r10_8, r10_12, c10, F10, l10_0, q6, q5, q0, q1, qm, qn, hlen, c2, qa, p1, go_sem, Int.reduceTMod, Int.reduceTDiv, Int.reduceDiv, Int.reduceMod, Int.reduceAdd, Int.reduceSub, Int.reduceMul, Int.reduceNeg, Int.reducePow, Int.reduceEq, ↓reduceIte, Nat.reduceEqDiff, Nat.reduceAdd, Nat.reduceMul, Nat.reduceLeDiff, Nat.reduceSub, Nat.reduceLT, Int.reduceToNat, Int.reduceLT, Int.reduceLE, reduceCtorEq]
            repeat' ((first | refine FK_split (fun h_ => ?_) (fun h_ => ?_) | refine GK_split (fun h_ => ?_) (fun h_ => ?_) | refine ite_both (fun h_ => ?_) (fun h_ => ?_)) <;> (try simp only [decide_eq_true_eq, decide_eq_false_iff_not, Bool.not_true, Bool.not_false, Bool.not_eq_true', Bool.not_eq_false', Bool.not_eq_eq_eq_not, Decidable.not_not] at h_) <;> (try simp only [r10_0, r10_1, r10_2, r10_3, r10_4, r10_5, r10_6, r10_7, r10_9, r10_10, r10_11, r10_8, r10_12, c10, F10, l10_0, q6, q5, q0, q1, qm, qn, hlen, c2, qa, p1, h_, go_sem, Int.reduceTMod, Int.reduceTDiv, Int.reduceDiv, Int.reduceMod, Int.reduceAdd, Int.reduceSub, Int.reduceMul, Int.reduceNeg, Int.reducePow, Int.reduceEq, ↓reduceIte, Nat.reduceEqDiff, Nat.reduceAdd, Nat.reduceMul, Nat.reduceLeDiff, Nat.reduceSub, Nat.reduceLT, Int.reduceToNat, Int.reduceLT, Int.reduceLE, reduceCtorEq]))
          · skip
            try simp only [r10_0, r10_1, r10_2, r10_3, r10_4, r10_5, r10_6, r10_7, r10_9, r10_10, r10_11, r10_8, r10_12, c10, F10, l10_0, q6, q5, q0, q1, qm, qn, hlen, c2, qa, p1, go_sem, Int.reduceTMod, Int.reduceTDiv, Int.reduceDiv, Int.reduceMod, Int.reduceAdd, Int.reduceSub, Int.reduceMul, Int.reduceNeg, Int.reducePow, Int.reduceEq, ↓reduceIte, Nat.reduceEqDiff, Nat.reduceAdd, Nat.reduceMul, Nat.reduceLeDiff, Nat.reduceSub, Nat.reduceLT, Int.reduceToNat, Int.reduceLT, Int.reduceLE, reduceCtorEq]
            repeat' ((first | refine FK_split (fun h_ => ?_) (fun h_ => ?_) | refine GK_split (fun h_ => ?_) (fun h_ => ?_) | refine ite_both (fun h_ => ?_) (fun h_ => ?_)) <;> (try simp only [decide_eq_true_eq, decide_eq_false_iff_not, Bool.not_true, Bool.not_false, Bool.not_eq_true', Bool.not_eq_false', Bool.not_eq_eq_eq_not, Decidable.not_not] at h_) <;> (try simp only [r10_0, r10_1, r10_2, r10_3, r10_4, r10_5, r10_6, r10_7, r10_9, r10_10, r10_11, r10_8, r10_12, c10, F10, l10_0, q6, q5, q0, q1, qm, qn, hlen, c2, qa, p1, h_, go_sem, Int.reduceTMod, Int.reduceTDiv, Int.reduceDiv, Int.reduceMod, Int.reduceAdd, Int.reduceSub, Int.reduceMul, Int.reduceNeg, Int.reducePow, Int.reduceEq, ↓reduceIte, Nat.reduceEqDiff, Nat.reduceAdd, Nat.reduceMul, Nat.reduceLeDiff, Nat.reduceSub, Nat.reduceLT, Int.reduceToNat, Int.reduceLT, Int.reduceLE, reduceCtorEq]))
        · exact ⟨w6, by rw [w5, List.take_zero]; rfl, w0, w1, wm, wn, by rw [List.take_zero]; rfl⟩
      rcases g1 with h | h | h | h
      all_goals
        rw [h] at hlen
        try simp only [r10_0, r10_1, r10_2, r10_3, r10_4, r10_5, r10_6, r10_7, r10_9, r10_10, r10_11, r10_8, r10_12, c10, F10, hlen, go_sem, Int.reduceTMod, Int.reduceTDiv, Int.reduceDiv, Int.reduceMod, Int.reduceAdd, Int.reduceSub, Int.reduceMul, Int.reduceNeg, Int.reducePow, Int.reduceEq, ↓reduceIte, Nat.reduceEqDiff, Nat.reduceAdd, Nat.reduceMul, Nat.reduceLeDiff, Nat.reduceSub, Nat.reduceLT, Int.reduceToNat, Int.reduceLT, Int.reduceLE, reduceCtorEq]
        repeat' ((first | refine FK_split (fun h_ => ?_) (fun h_ => ?_) | refine GK_split (fun h_ => ?_) (fun h_ => ?_) | refine ite_both (fun h_ => ?_) (fun h_ => ?_)) <;> (try simp only [decide_eq_true_eq, decide_eq_false_iff_not, Bool.not_true, Bool.not_false, Bool.not_eq_true', Bool.not_eq_false', Bool.not_eq_eq_eq_not, Decidable.not_not] at h_) <;> (try simp only [r10_0, r10_1, r10_2, r10_3, r10_4, r10_5, r10_6, r10_7, r10_9, r10_10, r10_11, r10_8, r10_12, c10, F10, hlen, h_, go_sem, Int.reduceTMod, Int.reduceTDiv, Int.reduceDiv, Int.reduceMod, Int.reduceAdd, Int.reduceSub, Int.reduceMul, Int.reduceNeg, Int.reducePow, Int.reduceEq, ↓reduceIte, Nat.reduceEqDiff, Nat.reduceAdd, Nat.reduceMul, Nat.reduceLeDiff, Nat.reduceSub, Nat.reduceLT, Int.reduceToNat, Int.reduceLT, Int.reduceLE, reduceCtorEq]))
        refine hloop _ ?_ ?_ ?_ ?_ ?_ ?_
        all_goals simp only [go_sem, Int.reduceTMod, Int.reduceTDiv, Int.reduceDiv, Int.reduceMod, Int.reduceAdd, Int.reduceSub, Int.reduceMul, Int.reduceNeg, Int.reducePow, Int.reduceEq, ↓reduceIte, Nat.reduceEqDiff, Nat.reduceAdd, Nat.reduceMul, Nat.reduceLeDiff, Nat.reduceSub, Nat.reduceLT, Int.reduceToNat, Int.reduceLT, Int.reduceLE, reduceCtorEq]
    · have e2 : rightB l ph = false := by unfold rightB; rw [if_neg e, if_neg g1]
      have f1 : ((l.length : Int) = 2) = False := eq_false (by omega)
      have f2 : ((l.length : Int) = 4) = False := eq_false (by omega)
      have f3 : ((l.length : Int) = 6) = False := eq_false (by omega)
      have f4 : ((l.length : Int) = 8) = False := eq_false (by omega)
      try simp only [r10_0, r10_1, r10_2, r10_3, r10_4, r10_5, r10_6, r10_7, r10_9, r10_10, r10_11, r10_8, r10_12, c10, F10, hlen, g0', f1, f2, f3, f4, e2, go_sem, Int.reduceTMod, Int.reduceTDiv, Int.reduceDiv, Int.reduceMod, Int.reduceAdd, Int.reduceSub, Int.reduceMul, Int.reduceNeg, Int.reducePow, Int.reduceEq, ↓reduceIte, Nat.reduceEqDiff, Nat.reduceAdd, Nat.reduceMul, Nat.reduceLeDiff, Nat.reduceSub, Nat.reduceLT, Int.reduceToNat, Int.reduceLT, Int.reduceLE, reduceCtorEq]
      repeat' ((first | refine FK_split (fun h_ => ?_) (fun h_ => ?_) | refine GK_split (fun h_ => ?_) (fun h_ => ?_) | refine ite_both (fun h_ => ?_) (fun h_ => ?_)) <;> (try simp only [decide_eq_true_eq, decide_eq_false_iff_not, Bool.not_true, Bool.not_false, Bool.not_eq_true', Bool.not_eq_false', Bool.not_eq_eq_eq_not, Decidable.not_not] at h_) <;> (try simp only [r10_0, r10_1, r10_2, r10_3, r10_4, r10_5, r10_6, r10_7, r10_9, r10_10, r10_11, r10_8, r10_12, c10, F10, hlen, g0', f1, f2, f3, f4, e2, h_, go_sem, Int.reduceTMod, Int.reduceTDiv, Int.reduceDiv, Int.reduceMod, Int.reduceAdd, Int.reduceSub, Int.reduceMul, Int.reduceNeg, Int.reducePow, Int.reduceEq, ↓reduceIte, Nat.reduceEqDiff, Nat.reduceAdd, Nat.reduceMul, Nat.reduceLeDiff, Nat.reduceSub, Nat.reduceLT, Int.reduceToNat, Int.reduceLT, Int.reduceLE, reduceCtorEq]))
theorem v_Right (r : Reg) (l : List Int) (ph : Int) (m : Mem) (n : Nat) (hr : RIn m n r l) (hl : l.length < 4294967296) : callF TA 10 [r, RI ph] m n = some (RB (rightB l ph)) := v_RightA r l ph m n hr

/- Patterns walked (chapter 09): the program's. Conditions: those that each theorem names. -/
open Go Go.Proofs
set_option linter.unusedSimpArgs false
set_option linter.unusedVariables false

theorem v_Sum (c : Cell) (l : List Int) (ph : Int) (m : Mem) (n : Nat) (hr : RIn m n (.one c) l) (hk : l.all okD = true) (hl : l.length ≤ 1000) : callF TA 12 [.agg [c, I ph]] m n = some (RI l.sum) := by
  refine callF_of (Fn_ofK (fn := F12) rfl (by simp [F12]) ?_)
  have hlen := hr.len
  have hr2 : RIn (upd m n (some ⟨[c, I ph], true⟩)) (n + 1) (.one c) l := hr.keep (by omega) (fun id hid => upd_ne _ _ (by omega))
  try simp only [r12_0, r12_1, r12_2, r12_3, r12_4, r12_5, r12_6, r12_7, c12, F12, hlen, go_sem, Int.reduceTMod, Int.reduceTDiv, Int.reduceDiv, Int.reduceMod, Int.reduceAdd, Int.reduceSub, Int.reduceMul, Int.reduceNeg, Int.reducePow, Int.reduceEq, ↓reduceIte, Nat.reduceEqDiff, Nat.reduceAdd, Nat.reduceMul, Nat.reduceLeDiff, Nat.reduceSub, Nat.reduceLT, Int.reduceToNat, Int.reduceLT, Int.reduceLE, reduceCtorEq]
  repeat' ((first | refine FK_split (fun h_ => ?_) (fun h_ => ?_) | refine GK_split (fun h_ => ?_) (fun h_ => ?_) | refine ite_both (fun h_ => ?_) (fun h_ => ?_)) <;> (try simp only [decide_eq_true_eq, decide_eq_false_iff_not, Bool.not_true, Bool.not_false, Bool.not_eq_true', Bool.not_eq_false', Bool.not_eq_eq_eq_not, Decidable.not_not] at h_) <;> (try simp only [r12_0, r12_1, r12_2, r12_3, r12_4, r12_5, r12_6, r12_7, c12, F12, hlen, h_, go_sem, Int.reduceTMod, Int.reduceTDiv, Int.reduceDiv, Int.reduceMod, Int.reduceAdd, Int.reduceSub, Int.reduceMul, Int.reduceNeg, Int.reducePow, Int.reduceEq, ↓reduceIte, Nat.reduceEqDiff, Nat.reduceAdd, Nat.reduceMul, Nat.reduceLeDiff, Nat.reduceSub, Nat.reduceLT, Int.reduceToNat, Int.reduceLT, Int.reduceLE, reduceCtorEq]))
  refine XK_iter (inv := fun i s => s.e 9 = RI i ∧ s.e 8 = RI l.length ∧ s.e 7 = .one c ∧ s.e 3 = RI (l.take i).sum ∧ s.m = upd m n (some ⟨[c, I ph], true⟩)) l.length
    (fun L _ => ⟨fun i hi s hs next => ?_, fun s hs => ?_⟩) 0 (by omega) _ ?_
  · obtain ⟨q9, q8, q7, q3, qm⟩ := hs
    have hx : l[i]? = some l[i] := List.getElem?_eq_getElem hi
    obtain ⟨id, off, cap, b, hr1, hid, hb, hc⟩ := RL.int hr2 hx
    generalize l[i] = x at *
    have c2 : ((i : Int) < (l.length : Int)) = True := eq_true (by omega)
    have c3 : (0 ≤ (i : Int)) = True := eq_true (by omega)
    have c7 : IntKind.i64.wrap ((i : Int) + 1) = ((i + 1 : Nat) : Int) := wr_nat (by omega)
    have hs1 := sum_snoc hx
    have hxk : okD x = true := List.all_eq_true.1 hk x (List.mem_of_getElem? hx)
    have hxk' := okD_iff.1 hxk
    have sb := sum_bd (l.take i) (List.all_eq_true.2 fun y hy => List.all_eq_true.1 hk y (List.mem_of_mem_take hy))
    have hlt : (l.take i).length ≤ 1000 := by rw [List.length_take]; omega
    have w : IntKind.i64.wrap ((l.take i).sum + x) = (l.take i).sum + x := wr_eq (by omega) (by omega)
    have hb' : s.m id = some b := by rw [qm]; exact hb
    rw [hr1] at q7
    try simp only [r12_0, r12_1, r12_2, r12_3, r12_4, r12_5, r12_6, r12_7, c12, F12, l12_0, q9, q8, q7, q3, c2, c3, c7, hb', hc, w, Int.toNat_natCast, Nat.mul_one, go_sem, Int.reduceTMod, Int.reduceTDiv, Int.reduceDiv, Int.reduceMod, Int.reduceAdd, Int.reduceSub, Int.reduceMul, Int.reduceNeg, Int.reducePow, Int.reduceEq, ↓reduceIte, Nat.reduceEqDiff, Nat.reduceAdd, Nat.reduceMul, Nat.reduceLeDiff, Nat.reduceSub, Nat.reduceLT, Int.reduceToNat, Int.reduceLT, Int.reduceLE, reduceCtorEq]
    repeat' ((first | refine FK_split (fun h_ => ?_) (fun h_ => ?_) | refine GK_split (fun h_ => ?_) (fun h_ => ?_) | refine ite_both (fun h_ => ?_) (fun h_ => ?_)) <;> (try simp only [decide_eq_true_eq, decide_eq_false_iff_not, Bool.not_true, Bool.not_false, Bool.not_eq_true', Bool.not_eq_false', Bool.not_eq_eq_eq_not, Decidable.not_not] at h_) <;> (try simp only [r12_0, r12_1, r12_2, r12_3, r12_4, r12_5, r12_6, r12_7, c12, F12, l12_0, q9, q8, q7, q3, c2, c3, c7, hb', hc, w, Int.toNat_natCast, Nat.mul_one, h_, go_sem, Int.reduceTMod, Int.reduceTDiv, Int.reduceDiv, Int.reduceMod, Int.reduceAdd, Int.reduceSub, Int.reduceMul, Int.reduceNeg, Int.reducePow, Int.reduceEq, ↓reduceIte, Nat.reduceEqDiff, Nat.reduceAdd, Nat.reduceMul, Nat.reduceLeDiff, Nat.reduceSub, Nat.reduceLT, Int.reduceToNat, Int.reduceLT, Int.reduceLE, reduceCtorEq]))
    refine next _ ⟨?_, ?_, ?_, ?_, ?_⟩
    all_goals simp only [q9, q8, q7, q3, qm, hr1, hs1, go_sem, Int.reduceTMod, Int.reduceTDiv, Int.reduceDiv, Int.reduceMod, Int.reduceAdd, Int.reduceSub, Int.reduceMul, Int.reduceNeg, Int.reducePow, Int.reduceEq, ↓reduceIte, Nat.reduceEqDiff, Nat.reduceAdd, Nat.reduceMul, Nat.reduceLeDiff, Nat.reduceSub, Nat.reduceLT, Int.reduceToNat, Int.reduceLT, Int.reduceLE, reduceCtorEq]
  · obtain ⟨q9, q8, q7, q3, qm⟩ := hs
    have c2 : ((l.length : Int) < (l.length : Int)) = False := eq_false (by omega)
    rw [List.take_length] at q3
    try simp only [r12_0, r12_1, r12_2, r12_3, r12_4, r12_5, r12_6, r12_7, c12, F12, l12_0, q9, q8, q7, q3, c2, go_sem, Int.reduceTMod, Int.reduceTDiv, Int.reduceDiv, Int.reduceMod, Int.reduceAdd, Int.reduceSub, Int.reduceMul, Int.reduceNeg, Int.reducePow, Int.reduceEq, ↓reduceIte, Nat.reduceEqDiff, Nat.reduceAdd, Nat.reduceMul, Nat.reduceLeDiff, Nat.reduceSub, Nat.reduceLT, Int.reduceToNat, Int.reduceLT, Int.reduceLE, reduceCtorEq]
    repeat' ((first | refine FK_split (fun h_ => ?_) (fun h_ => ?_) | refine GK_split (fun h_ => ?_) (fun h_ => ?_) | refine ite_both (fun h_ => ?_) (fun h_ => ?_)) <;> (try simp only [decide_eq_true_eq, decide_eq_false_iff_not, Bool.not_true, Bool.not_false, Bool.not_eq_true', Bool.not_eq_false', Bool.not_eq_eq_eq_not, Decidable.not_not] at h_) <;> (try simp only [r12_0, r12_1, r12_2, r12_3, r12_4, r12_5, r12_6, r12_7, c12, F12, l12_0, q9, q8, q7, q3, c2, h_, go_sem, Int.reduceTMod, Int.reduceTDiv, Int.reduceDiv, Int.reduceMod, Int.reduceAdd, Int.reduceSub, Int.reduceMul, Int.reduceNeg, Int.reducePow, Int.reduceEq, ↓reduceIte, Nat.reduceEqDiff, Nat.reduceAdd, Nat.reduceMul, Nat.reduceLeDiff, Nat.reduceSub, Nat.reduceLT, Int.reduceToNat, Int.reduceLT, Int.reduceLE, reduceCtorEq]))
  · simp only [List.take_zero, List.sum_nil, go_sem, Int.reduceTMod, Int.reduceTDiv, Int.reduceDiv, Int.reduceMod, Int.reduceAdd, Int.reduceSub, Int.reduceMul, Int.reduceNeg, Int.reducePow, Int.reduceEq, ↓reduceIte, Nat.reduceEqDiff, Nat.reduceAdd, Nat.reduceMul, Nat.reduceLeDiff, Nat.reduceSub, Nat.reduceLT, Int.reduceToNat, Int.reduceLT, Int.reduceLE, reduceCtorEq]

theorem v_Check (c : Cell) (l : List Int) (ph : Int) (m : Mem) (n : Nat) (hr : RIn m n (.one c) l) (hl : l.length < 4294967296) : callF TA 11 [.agg [c, I ph]] m n = some (RI (if rightB l ph = true then 0 else 30)) := by
  refine callF_of (Fn_ofK (fn := F11) rfl (by simp [F11]) ?_)
  have hlen := hr.len
  have hr2 : RIn (upd m n (some ⟨[c, I ph], true⟩)) (n + 1) (.one c) l := hr.keep (by omega) (fun id hid => upd_ne _ _ (by omega))
  by_cases g0 : l.length = 0
  · have e : l = [] := List.length_eq_zero_iff.1 g0
    have g0' : ((l.length : Int) = 0) = True := eq_true (by omega)
    by_cases p : ph = 0
    · subst p
      have e2 : rightB l 0 = true := by unfold rightB; rw [if_pos e]; exact decide_eq_true rfl
      try simp only [r11_0, r11_1, r11_2, r11_3, r11_4, r11_5, r11_6, r11_7, r11_8, r11_9, r11_10, r11_11, r11_12, r11_13, c11, F11, hlen, g0', e2, go_sem, Int.reduceTMod, Int.reduceTDiv, Int.reduceDiv, Int.reduceMod, Int.reduceAdd, Int.reduceSub, Int.reduceMul, Int.reduceNeg, Int.reducePow, Int.reduceEq, ↓reduceIte, Nat.reduceEqDiff, Nat.reduceAdd, Nat.reduceMul, Nat.reduceLeDiff, Nat.reduceSub, Nat.reduceLT, Int.reduceToNat, Int.reduceLT, Int.reduceLE, reduceCtorEq]
      repeat' ((first | refine FK_split (fun h_ => ?_) (fun h_ => ?_) | refine GK_split (fun h_ => ?_) (fun h_ => ?_) | refine ite_both (fun h_ => ?_) (fun h_ => ?_)) <;> (try simp only [decide_eq_true_eq, decide_eq_false_iff_not, Bool.not_true, Bool.not_false, Bool.not_eq_true', Bool.not_eq_false', Bool.not_eq_eq_eq_not, Decidable.not_not] at h_) <;> (try simp only [r11_0, r11_1, r11_2, r11_3, r11_4, r11_5, r11_6, r11_7, r11_8, r11_9, r11_10, r11_11, r11_12, r11_13, c11, F11, hlen, g0', e2, h_, go_sem, Int.reduceTMod, Int.reduceTDiv, Int.reduceDiv, Int.reduceMod, Int.reduceAdd, Int.reduceSub, Int.reduceMul, Int.reduceNeg, Int.reducePow, Int.reduceEq, ↓reduceIte, Nat.reduceEqDiff, Nat.reduceAdd, Nat.reduceMul, Nat.reduceLeDiff, Nat.reduceSub, Nat.reduceLT, Int.reduceToNat, Int.reduceLT, Int.reduceLE, reduceCtorEq]))
    · have e2 : rightB l ph = false := by unfold rightB; rw [if_pos e]; exact decide_eq_false p
      try simp only [r11_0, r11_1, r11_2, r11_3, r11_4, r11_5, r11_6, r11_7, r11_8, r11_9, r11_10, r11_11, r11_12, r11_13, c11, F11, hlen, g0', e2, p, go_sem, Int.reduceTMod, Int.reduceTDiv, Int.reduceDiv, Int.reduceMod, Int.reduceAdd, Int.reduceSub, Int.reduceMul, Int.reduceNeg, Int.reducePow, Int.reduceEq, ↓reduceIte, Nat.reduceEqDiff, Nat.reduceAdd, Nat.reduceMul, Nat.reduceLeDiff, Nat.reduceSub, Nat.reduceLT, Int.reduceToNat, Int.reduceLT, Int.reduceLE, reduceCtorEq]
      repeat' ((first | refine FK_split (fun h_ => ?_) (fun h_ => ?_) | refine GK_split (fun h_ => ?_) (fun h_ => ?_) | refine ite_both (fun h_ => ?_) (fun h_ => ?_)) <;> (try simp only [decide_eq_true_eq, decide_eq_false_iff_not, Bool.not_true, Bool.not_false, Bool.not_eq_true', Bool.not_eq_false', Bool.not_eq_eq_eq_not, Decidable.not_not] at h_) <;> (try simp only [r11_0, r11_1, r11_2, r11_3, r11_4, r11_5, r11_6, r11_7, r11_8, r11_9, r11_10, r11_11, r11_12, r11_13, c11, F11, hlen, g0', e2, p, h_, go_sem, Int.reduceTMod, Int.reduceTDiv, Int.reduceDiv, Int.reduceMod, Int.reduceAdd, Int.reduceSub, Int.reduceMul, Int.reduceNeg, Int.reducePow, Int.reduceEq, ↓reduceIte, Nat.reduceEqDiff, Nat.reduceAdd, Nat.reduceMul, Nat.reduceLeDiff, Nat.reduceSub, Nat.reduceLT, Int.reduceToNat, Int.reduceLT, Int.reduceLE, reduceCtorEq]))
  · have g0' : ((l.length : Int) = 0) = False := eq_false (by omega)
    have e : ¬ l = [] := fun h => g0 (by rw [h]; rfl)
    have em : (l.length : Int).tmod 2 = (l.length : Int) % 2 := Int.tmod_eq_emod_of_nonneg (by omega)
    by_cases g1 : l.length = 2 ∨ l.length = 4 ∨ l.length = 6 ∨ l.length = 8
    · have e2 : rightB l ph = (l.all okD && (decide (0 ≤ ph) && decide (ph < l.sum))) := by unfold rightB; rw [if_neg e, if_pos g1]
      rw [e2]
      have f1 : (8 < (l.length : Int)) = False := eq_false (by omega)
      have f2 : ((l.length : Int) % 2 = 0) = True := eq_true (by omega)
      try simp only [r11_0, r11_1, r11_2, r11_3, r11_4, r11_5, r11_6, r11_7, r11_8, r11_9, r11_10, r11_11, r11_12, r11_13, c11, F11, hlen, g0', em, f1, f2, go_sem, Int.reduceTMod, Int.reduceTDiv, Int.reduceDiv, Int.reduceMod, Int.reduceAdd, Int.reduceSub, Int.reduceMul, Int.reduceNeg, Int.reducePow, Int.reduceEq, ↓reduceIte, Nat.reduceEqDiff, Nat.reduceAdd, Nat.reduceMul, Nat.reduceLeDiff, Nat.reduceSub, Nat.reduceLT, Int.reduceToNat, Int.reduceLT, Int.reduceLE, reduceCtorEq]
      repeat' ((first | refine FK_split (fun h_ => ?_) (fun h_ => ?_) | refine GK_split (fun h_ => ?_) (fun h_ => ?_) | refine ite_both (fun h_ => ?_) (fun h_ => ?_)) <;> (try simp only [decide_eq_true_eq, decide_eq_false_iff_not, Bool.not_true, Bool.not_false, Bool.not_eq_true', Bool.not_eq_false', Bool.not_eq_eq_eq_not, Decidable.not_not] at h_) <;> (try simp only [r11_0, r11_1, r11_2, r11_3, r11_4, r11_5, r11_6, r11_7, r11_8, r11_9, r11_10, r11_11, r11_12, r11_13, c11, F11, hlen, g0', em, f1, f2, h_, go_sem, Int.reduceTMod, Int.reduceTDiv, Int.reduceDiv, Int.reduceMod, Int.reduceAdd, Int.reduceSub, Int.reduceMul, Int.reduceNeg, Int.reducePow, Int.reduceEq, ↓reduceIte, Nat.reduceEqDiff, Nat.reduceAdd, Nat.reduceMul, Nat.reduceLeDiff, Nat.reduceSub, Nat.reduceLT, Int.reduceToNat, Int.reduceLT, Int.reduceLE, reduceCtorEq]))
      refine XK_iter (inv := fun i s => s.e 34 = RI i ∧ s.e 33 = RI l.length ∧ s.e 32 = .one c ∧ s.e 1 = .one (.ptr n 0) ∧ s.m = upd m n (some ⟨[c, I ph], true⟩) ∧ s.n = n + 1 ∧ (l.take i).all okD = true) l.length
        (fun L _ => ⟨fun i hi s hs next => ?_, fun s hs => ?_⟩) 0 (by omega) _ ?_
      · obtain ⟨q34, q33, q32, q1, qm, qn, qa⟩ := hs
        have hx : l[i]? = some l[i] := List.getElem?_eq_getElem hi
        obtain ⟨id, off, cap, b, hr1, hid, hb, hc⟩ := RL.int hr2 hx
        generalize l[i] = x at *
        have c2 : ((i : Int) < (l.length : Int)) = True := eq_true (by omega)
        have c3 : (0 ≤ (i : Int)) = True := eq_true (by omega)
        have c7 : IntKind.i64.wrap ((i : Int) + 1) = ((i + 1 : Nat) : Int) := wr_nat (by omega)
        have ha1 := allD_snoc hx
        have hb' : s.m id = some b := by rw [qm]; exact hb
        rw [hr1] at q32
        cases hk : okD x with
        | true =>
          have hk' := okD_iff.1 hk
          have d1 : (x < 1) = False := eq_false (by omega)
          have d2 : (1048576 < x) = False := eq_false (by omega)
          try simp only [r11_0, r11_1, r11_2, r11_3, r11_4, r11_5, r11_6, r11_7, r11_8, r11_9, r11_10, r11_11, r11_12, r11_13, c11, F11, l11_0, q34, q33, q32, q1, c2, c3, c7, hb', hc, d1, d2, Int.toNat_natCast, Nat.mul_one, go_sem, Int.reduceTMod, Int.reduceTDiv, Int.reduceDiv, Int.reduceMod, Int.reduceAdd, Int.reduceSub, Int.reduceMul, Int.reduceNeg, Int.reducePow, Int.reduceEq, ↓reduceIte, Nat.reduceEqDiff, Nat.reduceAdd, Nat.reduceMul, Nat.reduceLeDiff, Nat.reduceSub, Nat.reduceLT, Int.reduceToNat, Int.reduceLT, Int.reduceLE, reduceCtorEq]
          repeat' ((first | refine FK_split (fun h_ => ?_) (fun h_ => ?_) | refine GK_split (fun h_ => ?_) (fun h_ => ?_) | refine ite_both (fun h_ => ?_) (fun h_ => ?_)) <;> (try simp only [decide_eq_true_eq, decide_eq_false_iff_not, Bool.not_true, Bool.not_false, Bool.not_eq_true', Bool.not_eq_false', Bool.not_eq_eq_eq_not, Decidable.not_not] at h_) <;> (try simp only [r11_0, r11_1, r11_2, r11_3, r11_4, r11_5, r11_6, r11_7, r11_8, r11_9, r11_10, r11_11, r11_12, r11_13, c11, F11, l11_0, q34, q33, q32, q1, c2, c3, c7, hb', hc, d1, d2, Int.toNat_natCast, Nat.mul_one, h_, go_sem, Int.reduceTMod, Int.reduceTDiv, Int.reduceDiv, Int.reduceMod, Int.reduceAdd, Int.reduceSub, Int.reduceMul, Int.reduceNeg, Int.reducePow, Int.reduceEq, ↓reduceIte, Nat.reduceEqDiff, Nat.reduceAdd, Nat.reduceMul, Nat.reduceLeDiff, Nat.reduceSub, Nat.reduceLT, Int.reduceToNat, Int.reduceLT, Int.reduceLE, reduceCtorEq]))
          refine next _ ⟨?_, ?_, ?_, ?_, ?_, ?_, ?_⟩
          all_goals simp only [q34, q33, q32, q1, qm, qn, hr1, ha1, qa, hk, go_sem, Int.reduceTMod, Int.reduceTDiv, Int.reduceDiv, Int.reduceMod, Int.reduceAdd, Int.reduceSub, Int.reduceMul, Int.reduceNeg, Int.reducePow, Int.reduceEq, ↓reduceIte, Nat.reduceEqDiff, Nat.reduceAdd, Nat.reduceMul, Nat.reduceLeDiff, Nat.reduceSub, Nat.reduceLT, Int.reduceToNat, Int.reduceLT, Int.reduceLE, reduceCtorEq]
        | false =>
          have hl0 : l.all okD = false := by
            rw [List.all_eq_false]
            exact ⟨x, List.mem_of_getElem? hx, by simp [hk]⟩
          by_cases d1 : x < 1
          · skip
            try simp only [r11_0, r11_1, r11_2, r11_3, r11_4, r11_5, r11_6, r11_7, r11_8, r11_9, r11_10, r11_11, r11_12, r11_13, c11, F11, l11_0, q34, q33, q32, q1, c2, c3, c7, hb', hc, d1, hl0, Int.toNat_natCast, Nat.mul_one, go_sem, Int.reduceTMod, Int.reduceTDiv, Int.reduceDiv, Int.reduceMod, Int.reduceAdd, Int.reduceSub, Int.reduceMul, Int.reduceNeg, Int.reducePow, Int.reduceEq, ↓reduceIte, Nat.reduceEqDiff, Nat.reduceAdd, Nat.reduceMul, Nat.reduceLeDiff, Nat.reduceSub, Nat.reduceLT, Int.reduceToNat, Int.reduceLT, Int.reduceLE, reduceCtorEq]
            repeat' ((first | refine FK_split (fun h_ => ?_) (fun h_ => ?_) | refine GK_split (fun h_ => ?_) (fun h_ => ?_) | refine ite_both (fun h_ => ?_) (fun h_ => ?_)) <;> (try simp only [decide_eq_true_eq, decide_eq_false_iff_not, Bool.not_true, Bool.not_false, Bool.not_eq_true', Bool.not_eq_false', Bool.not_eq_eq_eq_not, Decidable.not_not] at h_) <;> (try simp only [r11_0, r11_1, r11_2, r11_3, r11_4, r11_5, r11_6, r11_7, r11_8, r11_9, r11_10, r11_11, r11_12, r11_13, c11, F11, l11_0, q34, q33, q32, q1, c2, c3, c7, hb', hc, d1, hl0, Int.toNat_natCast, Nat.mul_one, h_, go_sem, Int.reduceTMod, Int.reduceTDiv, Int.reduceDiv, Int.reduceMod, Int.reduceAdd, Int.reduceSub, Int.reduceMul, Int.reduceNeg, Int.reducePow, Int.reduceEq, ↓reduceIte, Nat.reduceEqDiff, Nat.reduceAdd, Nat.reduceMul, Nat.reduceLeDiff, Nat.reduceSub, Nat.reduceLT, Int.reduceToNat, Int.reduceLT, Int.reduceLE, reduceCtorEq]))
          · have d2 : (1048576 < x) = True := eq_true (by
              have : ¬ (1 ≤ x ∧ x ≤ 1048576) := fun h => by rw [okD_iff.2 h] at hk; cases hk
              omega)
            try simp only [r11_0, r11_1, r11_2, r11_3, r11_4, r11_5, r11_6, r11_7, r11_8, r11_9, r11_10, r11_11, r11_12, r11_13, c11, F11, l11_0, q34, q33, q32, q1, c2, c3, c7, hb', hc, d1, d2, hl0, Int.toNat_natCast, Nat.mul_one, go_sem, Int.reduceTMod, Int.reduceTDiv, Int.reduceDiv, Int.reduceMod, Int.reduceAdd, Int.reduceSub, Int.reduceMul, Int.reduceNeg, Int.reducePow, Int.reduceEq, ↓reduceIte, Nat.reduceEqDiff, Nat.reduceAdd, Nat.reduceMul, Nat.reduceLeDiff, Nat.reduceSub, Nat.reduceLT, Int.reduceToNat, Int.reduceLT, Int.reduceLE, reduceCtorEq]
            repeat' ((first | refine FK_split (fun h_ => ?_) (fun h_ => ?_) | refine GK_split (fun h_ => ?_) (fun h_ => ?_) | refine ite_both (fun h_ => ?_) (fun h_ => ?_)) <;> (try simp only [decide_eq_true_eq, decide_eq_false_iff_not, Bool.not_true, Bool.not_false, Bool.not_eq_true', Bool.not_eq_false', Bool.not_eq_eq_eq_not, Decidable.not_not] at h_) <;> (try simp only [r11_0, r11_1, r11_2, r11_3, r11_4, r11_5, r11_6, r11_7, r11_8, r11_9, r11_10, r11_11, r11_12, r11_13, c11, F11, l11_0, q34, q33, q32, q1, c2, c3, c7, hb', hc, d1, d2, hl0, Int.toNat_natCast, Nat.mul_one, h_, go_sem, Int.reduceTMod, Int.reduceTDiv, Int.reduceDiv, Int.reduceMod, Int.reduceAdd, Int.reduceSub, Int.reduceMul, Int.reduceNeg, Int.reducePow, Int.reduceEq, ↓reduceIte, Nat.reduceEqDiff, Nat.reduceAdd, Nat.reduceMul, Nat.reduceLeDiff, Nat.reduceSub, Nat.reduceLT, Int.reduceToNat, Int.reduceLT, Int.reduceLE, reduceCtorEq]))
      · obtain ⟨q34, q33, q32, q1, qm, qn, qa⟩ := hs
        have c2 : ((l.length : Int) < (l.length : Int)) = False := eq_false (by omega)
        rw [List.take_length] at qa
        have hs := v_Sum c l ph _ _ hr2.frz qa (by omega)
        have hbn : s.m n = some ⟨[c, I ph], true⟩ := by rw [qm]; exact upd_same _ _ _
        rw [← qm] at hs
        by_cases p1 : ph < 0
        · have p2 : (0 ≤ ph) = False := eq_false (by omega)
          try simp only [r11_0, r11_1, r11_2, r11_3, r11_4, r11_5, r11_6, r11_7, r11_8, r11_9, r11_10, r11_11, r11_12, r11_13, c11, F11, l11_0, q34, q33, q32, q1, qn, hbn, rd_of hbn, hs, c2, qa, p1, p2, go_sem, Int.reduceTMod, Int.reduceTDiv, Int.reduceDiv, Int.reduceMod, Int.reduceAdd, Int.reduceSub, Int.reduceMul, Int.reduceNeg, Int.reducePow, Int.reduceEq, ↓reduceIte, Nat.reduceEqDiff, Nat.reduceAdd, Nat.reduceMul, Nat.reduceLeDiff, Nat.reduceSub, Nat.reduceLT, Int.reduceToNat, Int.reduceLT, Int.reduceLE, reduceCtorEq]
          repeat' ((first | refine FK_split (fun h_ => ?_) (fun h_ => ?_) | refine GK_split (fun h_ => ?_) (fun h_ => ?_) | refine ite_both (fun h_ => ?_) (fun h_ => ?_)) <;> (try simp only [decide_eq_true_eq, decide_eq_false_iff_not, Bool.not_true, Bool.not_false, Bool.not_eq_true', Bool.not_eq_false', Bool.not_eq_eq_eq_not, Decidable.not_not] at h_) <;> (try simp only [r11_0, r11_1, r11_2, r11_3, r11_4, r11_5, r11_6, r11_7, r11_8, r11_9, r11_10, r11_11, r11_12, r11_13, c11, F11, l11_0, q34, q33, q32, q1, qn, hbn, rd_of hbn, hs, c2, qa, p1, p2, h_, go_sem, Int.reduceTMod, Int.reduceTDiv, Int.reduceDiv, Int.reduceMod, Int.reduceAdd, Int.reduceSub, Int.reduceMul, Int.reduceNeg, Int.reducePow, Int.reduceEq, ↓reduceIte, Nat.reduceEqDiff, Nat.reduceAdd, Nat.reduceMul, Nat.reduceLeDiff, Nat.reduceSub, Nat.reduceLT, Int.reduceToNat, Int.reduceLT, Int.reduceLE, reduceCtorEq]))
        · have p2 : (0 ≤ ph) = True := eq_true (by omega)
          by_cases p3 : ph < l.sum
          · have p4 : (l.sum ≤ ph) = False := eq_false (by omega)
            try simp only [r11_0, r11_1, r11_2, r11_3, r11_4, r11_5, r11_6, r11_7, r11_8, r11_9, r11_10, r11_11, r11_12, r11_13, c11, F11, l11_0, q34, q33, q32, q1, qn, hbn, rd_of hbn, hs, c2, qa, p1, p2, p3, p4, go_sem, Int.reduceTMod, Int.reduceTDiv, Int.reduceDiv, Int.reduceMod, Int.reduceAdd, Int.reduceSub, Int.reduceMul, Int.reduceNeg, Int.reducePow, Int.reduceEq, ↓reduceIte, Nat.reduceEqDiff, Nat.reduceAdd, Nat.reduceMul, Nat.reduceLeDiff, Nat.reduceSub, Nat.reduceLT, Int.reduceToNat, Int.reduceLT, Int.reduceLE, reduceCtorEq]
            repeat' ((first | refine FK_split (fun h_ => ?_) (fun h_ => ?_) | refine GK_split (fun h_ => ?_) (fun h_ => ?_) | refine ite_both (fun h_ => ?_) (fun h_ => ?_)) <;> (try simp only [decide_eq_true_eq, decide_eq_false_iff_not, Bool.not_true, Bool.not_false, Bool.not_eq_true', Bool.not_eq_false', Bool.not_eq_eq_eq_not, Decidable.not_not] at h_) <;> (try simp only [r11_0, r11_1, r11_2, r11_3, r11_4, r11_5, r11_6, r11_7, r11_8, r11_9, r11_10, r11_11, r11_12, r11_13, c11, F11, l11_0, q34, q33, q32, q1, qn, hbn, rd_of hbn, hs, c2, qa, p1, p2, p3, p4, h_, go_sem, Int.reduceTMod, Int.reduceTDiv, Int.reduceDiv, Int.reduceMod, Int.reduceAdd, Int.reduceSub, Int.reduceMul, Int.reduceNeg, Int.reducePow, Int.reduceEq, ↓reduceIte, Nat.reduceEqDiff, Nat.reduceAdd, Nat.reduceMul, Nat.reduceLeDiff, Nat.reduceSub, Nat.reduceLT, Int.reduceToNat, Int.reduceLT, Int.reduceLE, reduceCtorEq]))
          · have p4 : (l.sum ≤ ph) = True := eq_true (by omega)
            try simp only [r11_0, r11_1, r11_2, r11_3, r11_4, r11_5, r11_6, r11_7, r11_8, r11_9, r11_10, r11_11, r11_12, r11_13, c11, F11, l11_0, q34, q33, q32, q1, qn, hbn, rd_of hbn, hs, c2, qa, p1, p2, p3, p4, go_sem, Int.reduceTMod, Int.reduceTDiv, Int.reduceDiv, Int.reduceMod, Int.reduceAdd, Int.reduceSub, Int.reduceMul, Int.reduceNeg, Int.reducePow, Int.reduceEq, ↓reduceIte, Nat.reduceEqDiff, Nat.reduceAdd, Nat.reduceMul, Nat.reduceLeDiff, Nat.reduceSub, Nat.reduceLT, Int.reduceToNat, Int.reduceLT, Int.reduceLE, reduceCtorEq]
            repeat' ((first | refine FK_split (fun h_ => ?_) (fun h_ => ?_) | refine GK_split (fun h_ => ?_) (fun h_ => ?_) | refine ite_both (fun h_ => ?_) (fun h_ => ?_)) <;> (try simp only [decide_eq_true_eq, decide_eq_false_iff_not, Bool.not_true, Bool.not_false, Bool.not_eq_true', Bool.not_eq_false', Bool.not_eq_eq_eq_not, Decidable.not_not] at h_) <;> (try simp only [r11_0, r11_1, r11_2, r11_3, r11_4, r11_5, r11_6, r11_7, r11_8, r11_9, r11_10, r11_11, r11_12, r11_13, c11, F11, l11_0, q34, q33, q32, q1, qn, hbn, rd_of hbn, hs, c2, qa, p1, p2, p3, p4, h_, go_sem, Int.reduceTMod, Int.reduceTDiv, Int.reduceDiv, Int.reduceMod, Int.reduceAdd, Int.reduceSub, Int.reduceMul, Int.reduceNeg, Int.reducePow, Int.reduceEq, ↓reduceIte, Nat.reduceEqDiff, Nat.reduceAdd, Nat.reduceMul, Nat.reduceLeDiff, Nat.reduceSub, Nat.reduceLT, Int.reduceToNat, Int.reduceLT, Int.reduceLE, reduceCtorEq]))
      · simp only [List.take_zero, List.all_nil, go_sem, Int.reduceTMod, Int.reduceTDiv, Int.reduceDiv, Int.reduceMod, Int.reduceAdd, Int.reduceSub, Int.reduceMul, Int.reduceNeg, Int.reducePow, Int.reduceEq, ↓reduceIte, Nat.reduceEqDiff, Nat.reduceAdd, Nat.reduceMul, Nat.reduceLeDiff, Nat.reduceSub, Nat.reduceLT, Int.reduceToNat, Int.reduceLT, Int.reduceLE, reduceCtorEq]
    · have e2 : rightB l ph = false := by unfold rightB; rw [if_neg e, if_neg g1]
      by_cases f1 : 8 < (l.length : Int)
      · skip
        try simp only [r11_0, r11_1, r11_2, r11_3, r11_4, r11_5, r11_6, r11_7, r11_8, r11_9, r11_10, r11_11, r11_12, r11_13, c11, F11, hlen, g0', em, f1, e2, go_sem, Int.reduceTMod, Int.reduceTDiv, Int.reduceDiv, Int.reduceMod, Int.reduceAdd, Int.reduceSub, Int.reduceMul, Int.reduceNeg, Int.reducePow, Int.reduceEq, ↓reduceIte, Nat.reduceEqDiff, Nat.reduceAdd, Nat.reduceMul, Nat.reduceLeDiff, Nat.reduceSub, Nat.reduceLT, Int.reduceToNat, Int.reduceLT, Int.reduceLE, reduceCtorEq]
        repeat' ((first | refine FK_split (fun h_ => ?_) (fun h_ => ?_) | refine GK_split (fun h_ => ?_) (fun h_ => ?_) | refine ite_both (fun h_ => ?_) (fun h_ => ?_)) <;> (try simp only [decide_eq_true_eq, decide_eq_false_iff_not, Bool.not_true, Bool.not_false, Bool.not_eq_true', Bool.not_eq_false', Bool.not_eq_eq_eq_not, Decidable.not_not] at h_) <;> (try simp only [r11_0, r11_1, r11_2, r11_3, r11_4, r11_5, r11_6, r11_7, r11_8, r11_9, r11_10, r11_11, r11_12, r11_13, c11, F11, hlen, g0', em, f1, e2, h_, go_sem, Int.reduceTMod, Int.reduceTDiv, Int.reduceDiv, Int.reduceMod, Int.reduceAdd, Int.reduceSub, Int.reduceMul, Int.reduceNeg, Int.reducePow, Int.reduceEq, ↓reduceIte, Nat.reduceEqDiff, Nat.reduceAdd, Nat.reduceMul, Nat.reduceLeDiff, Nat.reduceSub, Nat.reduceLT, Int.reduceToNat, Int.reduceLT, Int.reduceLE, reduceCtorEq]))
      · have f2 : ((l.length : Int) % 2 = 0) = False := eq_false (by omega)
        try simp only [r11_0, r11_1, r11_2, r11_3, r11_4, r11_5, r11_6, r11_7, r11_8, r11_9, r11_10, r11_11, r11_12, r11_13, c11, F11, hlen, g0', em, f1, f2, e2, go_sem, Int.reduceTMod, Int.reduceTDiv, Int.reduceDiv, Int.reduceMod, Int.reduceAdd, Int.reduceSub, Int.reduceMul, Int.reduceNeg, Int.reducePow, Int.reduceEq, ↓reduceIte, Nat.reduceEqDiff, Nat.reduceAdd, Nat.reduceMul, Nat.reduceLeDiff, Nat.reduceSub, Nat.reduceLT, Int.reduceToNat, Int.reduceLT, Int.reduceLE, reduceCtorEq]
        repeat' ((first | refine FK_split (fun h_ => ?_) (fun h_ => ?_) | refine GK_split (fun h_ => ?_) (fun h_ => ?_) | refine ite_both (fun h_ => ?_) (fun h_ => ?_)) <;> (try simp only [decide_eq_true_eq, decide_eq_false_iff_not, Bool.not_true, Bool.not_false, Bool.not_eq_true', Bool.not_eq_false', Bool.not_eq_eq_eq_not, Decidable.not_not] at h_) <;> (try simp only [r11_0, r11_1, r11_2, r11_3, r11_4, r11_5, r11_6, r11_7, r11_8, r11_9, r11_10, r11_11, r11_12, r11_13, c11, F11, hlen, g0', em, f1, f2, e2, h_, go_sem, Int.reduceTMod, Int.reduceTDiv, Int.reduceDiv, Int.reduceMod, Int.reduceAdd, Int.reduceSub, Int.reduceMul, Int.reduceNeg, Int.reducePow, Int.reduceEq, ↓reduceIte, Nat.reduceEqDiff, Nat.reduceAdd, Nat.reduceMul, Nat.reduceLeDiff, Nat.reduceSub, Nat.reduceLT, Int.reduceToNat, Int.reduceLT, Int.reduceLE, reduceCtorEq]))

/- Rows of pieces; a pen that goes along a way: one point more. Conditions: those that each theorem names. -/
open Go Go.Proofs
set_option linter.unusedSimpArgs false
set_option linter.unusedVariables false

/-- One record more, in a block of its own. -/
theorem K_pushC {T : Nat → Option SFun} {α : Type} {enc : α → List Cell} {sz : Nat} (hsz : ∀ x, (enc x).length = sz) (hpos : 0 < sz) {base n0 n : Nat} {m0 m : Mem} {r0 : Reg} {l : List α} {p : α} {j by' : Nat} {o : Bool} {d : Option Nat} {os : List SOper} {e : Nat → Reg} {k : Kt}
    (ho : OL enc sz base m0 n0 r0 l) (hn : n0 ≤ n) (hm : ∀ id, base ≤ id → id < n0 → m id = m0 id) (hj : m j = some ⟨enc p, o⟩) (hsm : l.length + 1 ≤ 4294967296) (hbase : base ≤ n)
    (next : ∀ c m', OL enc sz base m' (n + 1) (.one c) (l ++ [p]) → (∀ id, id < n → sid r0 ≠ some id → m' id = m id) → (∀ id, sid (.one c) = some id → id = n) → RK T os (putE e d (.one c)) m' (n + 1) k) :
    ThenK T d os e k (evApp m n sz by' r0 (.one (.sl j 0 1 (some 1) sz))) := by
  have hx : newsOf m sz (.one (.sl j 0 1 (some 1) sz)) = some (1, enc p) := by
    simp only [newsOf, if_true]
    rw [rd_of hj]
    simp [rdB, hsz]
    exact List.take_of_length_le (by rw [hsz]; exact Nat.le_refl _)
  rcases ho with ⟨rfl, rfl⟩ | ⟨id, rfl, h2, h3, h4⟩
  · simp only [evApp, hx]
    rw [if_neg (by omega), if_pos (by omega)]
    refine next _ _ (Or.inr ⟨n, rfl, hbase, by omega, ?_⟩) (fun id hid _ => upd_ne _ _ (by omega)) (fun id h => ?_)
    · rw [upd_same]
      simp
    · simp only [sid, Option.some.injEq] at h; exact h.symm
  · have h5 : m id = some ⟨l.flatMap enc, true⟩ := by rw [hm id h2 h3]; exact h4
    have hl := flatMap_len enc sz hsz l
    have h6 : rd m id 0 (l.length * sz) = some (l.flatMap enc) := by
      rw [rd_of h5]
      unfold rdB
      rw [if_pos (by rw [hl]; omega), List.drop_zero, ← hl, List.take_length]
    simp only [evApp, hx, if_true, h5, h6, Option.map_some, true_and, if_pos hsm]
    refine next _ _ (Or.inr ⟨n, by simp, hbase, by omega, ?_⟩) (fun i hi hs => ?_) (fun id h => ?_)
    · rw [upd_same]; simp
    · rw [upd_ne _ _ (by omega), upd_ne _ _ (fun e => hs (by rw [e]; rfl))]
    · simp only [sid, Option.some.injEq] at h; exact h.symm
abbrev encS (c : Cell) : List Cell := [c, .sc (.bool false)]
theorem sc2 (c : Cell) : (encS c).length = 2 := rfl
theorem OLs.lt {α : Type} {enc : α → List Cell} {sz base : Nat} {m : Mem} {n : Nat} {r : Reg} {l : List α} (h : OL enc sz base m n r l) {id : Nat} (hi : sid r = some id) : base ≤ id ∧ id < n := by
  rcases h with ⟨rfl, _⟩ | ⟨id', rfl, h2, h3, _⟩
  · cases hi
  · simp only [sid, Option.some.injEq] at hi; omega
/-- A piece of the pen's own. -/
def OPc (base : Nat) (m : Mem) (n : Nat) (c : Cell) (l : List Pt) : Prop :=
  ∃ id cap, c = .sl id 0 l.length cap 2 ∧ base ≤ id ∧ id < n ∧ m id = some ⟨l.flatMap Pt.cs, true⟩ ∧ (cap = none ∨ cap = some l.length)
theorem OPc.lt {base : Nat} {m : Mem} {n : Nat} {c : Cell} {l : List Pt} (h : OPc base m n c l) {id : Nat} (hi : sid (.one c) = some id) : base ≤ id ∧ id < n := by
  obtain ⟨id', cap, rfl, h1, h2, _⟩ := h
  simp only [sid, Option.some.injEq] at hi; omega
theorem OPc.keep {base : Nat} {m m' : Mem} {n n' : Nat} {c : Cell} {l : List Pt} (h : OPc base m n c l) (hn : n ≤ n') (hm : ∀ id, sid (.one c) = some id → m' id = m id) : OPc base m' n' c l := by
  obtain ⟨id', cap, rfl, h1, h2, h3, h4⟩ := h
  exact ⟨id', cap, rfl, h1, by omega, by rw [hm id' rfl]; exact h3, h4⟩
theorem OPc.rl {base : Nat} {m : Mem} {n : Nat} {c : Cell} {l : List Pt} (h : OPc base m n c l) : RPt m n (.one c) l := by
  obtain ⟨id, cap, rfl, h1, h2, h3, h4⟩ := h
  refine Or.inr ⟨id, 0, cap, rfl, h2, ?_⟩
  have hl := flatMap_len Pt.cs 2 cs2 l
  rw [rd_of h3]
  unfold rdB
  rw [if_pos (by rw [hl]; omega), List.drop_zero, ← hl, List.take_length]
/-- One point more. -/
theorem K_pushQ {T : Nat → Option SFun} {base n0 n : Nat} {m0 m : Mem} {c0 : Cell} {l : List Pt} {p : Pt} {j by' : Nat} {o : Bool} {d : Option Nat} {os : List SOper} {e : Nat → Reg} {k : Kt}
    (ho : OPc base m0 n0 c0 l) (hn : n0 ≤ n) (hm : ∀ id, sid (.one c0) = some id → m id = m0 id) (hj : m j = some ⟨Pt.cs p, o⟩) (hsm : l.length + 1 ≤ 4294967296) (hbase : base ≤ n)
    (next : ∀ c m', OPc base m' (n + 1) c (l ++ [p]) → (∀ id, id < n → sid (.one c0) ≠ some id → m' id = m id) → (∀ id, sid (.one c) = some id → id = n) → RK T os (putE e d (.one c)) m' (n + 1) k) :
    ThenK T d os e k (evApp m n 2 by' (.one c0) (.one (.sl j 0 1 (some 1) 2))) := by
  have hx : newsOf m 2 (.one (.sl j 0 1 (some 1) 2)) = some (1, Pt.cs p) := by
    simp only [newsOf, if_true]
    rw [rd_of hj]
    simp [rdB]
  obtain ⟨id, cap, rfl, h2, h3, h4, h7⟩ := ho
  have h5 : m id = some ⟨l.flatMap Pt.cs, true⟩ := by rw [hm id rfl]; exact h4
  have hl := flatMap_len Pt.cs 2 cs2 l
  have h6 : rd m id 0 (l.length * 2) = some (l.flatMap Pt.cs) := by
    rw [rd_of h5]
    unfold rdB
    rw [if_pos (by rw [hl]; omega), List.drop_zero, ← hl, List.take_length]
  have fin : ∀ m', m' n = some ⟨l.flatMap Pt.cs ++ Pt.cs p, true⟩ → OPc base m' (n + 1) (.sl n 0 (l.length + 1) none 2) (l ++ [p]) := fun m' h => ⟨n, none, by simp, hbase, by omega, by rw [h]; simp, Or.inl rfl⟩
  rcases h7 with rfl | rfl
  · simp only [evApp, hx, if_true, h5, h6, Option.map_some, true_and, if_pos hsm]
    exact next _ _ (fin _ (upd_same _ _ _)) (fun i hi hs => by rw [upd_ne _ _ (by omega), upd_ne _ _ (fun e => hs (by rw [e]; rfl))]) (fun i h => by simp only [sid, Option.some.injEq] at h; exact h.symm)
  · simp only [evApp, hx, true_and, if_pos hsm]
    rw [if_neg (by omega)]
    simp only [h6, Option.map_some]
    exact next _ _ (fin _ (upd_same _ _ _)) (fun i hi hs => upd_ne _ _ (by omega)) (fun i h => by simp only [sid, Option.some.injEq] at h; exact h.symm)
/-- A row of pieces of the pen's own, none of them in a block of A. -/
def OSb (A : Nat → Prop) (pid : Nat) (m : Mem) (n : Nat) (oc : Cell) (ls : List (List Pt)) : Prop :=
  ∃ cs : List Cell, OL encS 2 (pid + 1) m n (.one oc) cs ∧ (∀ j, sid (.one oc) = some j → ¬ A j) ∧ cs.length = ls.length ∧
    ∀ (i : Nat) (l : List Pt), ls[i]? = some l → ∃ c, cs[i]? = some c ∧ OPc (pid + 1) m n c l ∧ ∀ j, sid (.one c) = some j → (¬ A j ∧ sid (.one oc) ≠ some j) ∧ ∀ i' c', i' ≠ i → cs[i']? = some c' → sid (.one c') ≠ some j
theorem OSb.nil {A : Nat → Prop} {pid : Nat} {m : Mem} {n : Nat} : OSb A pid m n (.sc (.slice none 0 0)) [] := ⟨[], OL.nil, fun j hj => (by cases hj), rfl, fun i l hi => (by simp at hi)⟩
/-- What is kept: all blocks of the pen's. -/
theorem OSb.keep {A A' : Nat → Prop} {pid : Nat} {m m' : Mem} {n n' : Nat} {oc : Cell} {ls : List (List Pt)} (h : OSb A pid m n oc ls) (hn : n ≤ n') (hf : ∀ id, pid + 1 ≤ id → id < n → ¬ A id → m' id = m id) (hA : ∀ j, j < n → A' j → A j) : OSb A' pid m' n' oc ls := by
  obtain ⟨cs, h1, h2, h3, h4⟩ := h
  have o1 : OL encS 2 (pid + 1) m' n' (.one oc) cs := by
    rcases h1 with h | ⟨id, e1, e2, e3, e4⟩
    · exact Or.inl h
    · exact Or.inr ⟨id, e1, e2, by omega, by rw [hf id e2 e3 (h2 id (by rw [e1]; rfl))]; exact e4⟩
  refine ⟨cs, o1, fun j hj ha => h2 j hj (hA j (OLs.lt h1 hj).2 ha), h3, fun i l hi => ?_⟩
  obtain ⟨c, k1, k2, k3⟩ := h4 i l hi
  have o2 : OPc (pid + 1) m' n' c l := k2.keep hn (fun id hi => hf id (k2.lt hi).1 (k2.lt hi).2 (k3 id hi).1.1)
  exact ⟨c, k1, o2, fun j hj => ⟨⟨fun ha => (k3 j hj).1.1 (hA j (k2.lt hj).2 ha), (k3 j hj).1.2⟩, (k3 j hj).2⟩⟩
theorem OSb.len {A : Nat → Prop} {pid : Nat} {m : Mem} {n : Nat} {oc : Cell} {ls : List (List Pt)} (h : OSb A pid m n oc ls) : lenO (.one oc) = some (ls.length : Int) := by
  obtain ⟨cs, h1, h2, h3, h4⟩ := h
  rw [(h1.rl sc2).len, h3]
theorem flat_app (a : List Cell) (c : Cell) : (a ++ [c]).flatMap encS = a.flatMap encS ++ [c, .sc (.bool false)] := by simp
theorem flatS_len (a : List Cell) : (a.flatMap encS).length = a.length * 2 := flatMap_len encS 2 sc2 a
theorem set_last (a : List Cell) (c c' : Cell) : ((a ++ [c]).flatMap encS).set (a.length * 2) c' = (a ++ [c']).flatMap encS := by
  have e : (a.flatMap encS).length = a.length * 2 := flatS_len a
  rw [flat_app, flat_app, ← e, List.set_append_right _ _ (Nat.le_refl _), Nat.sub_self]
  rfl
theorem fit_last (a : List Cell) (c : Cell) : (a.length * 2 + 1 ≤ ((a ++ [c]).flatMap encS).length) = True := eq_true (by rw [flatS_len, List.length_append]; simp; omega)
theorem at_last (a : List Cell) (c : Cell) : ((a ++ [c]).flatMap encS)[a.length * 2]? = some c := by
  rw [flat_app, ← flatS_len a, List.getElem?_append_right (Nat.le_refl _), Nat.sub_self]
  rfl
/-- A point more of the last piece. -/
def addL : List (List Pt) → Pt → List (List Pt)
  | [], _ => []
  | [x], p => [x ++ [p]]
  | x :: y :: l, p => x :: addL (y :: l) p
theorem addL_snoc (a : List (List Pt)) (x : List Pt) (p : Pt) : addL (a ++ [x]) p = a ++ [x ++ [p]] := by
  induction a with
  | nil => rfl
  | cons b a ih =>
    cases a with
    | nil => rfl
    | cons b' a' =>
      show b :: addL (b' :: (a' ++ [x])) p = _
      rw [show b' :: (a' ++ [x]) = (b' :: a') ++ [x] from rfl, ih]
      rfl
/-- A pen: its pattern, which length it is in, how much is left of it, and the pieces. -/
def DPen (A : Nat → Prop) (pid : Nat) (m : Mem) (n : Nat) (pc : Cell) (ph k left : Int) (ls : List (List Pt)) : Prop :=
  ∃ oc, m pid = some ⟨[pc, I ph, I k, I left, oc], true⟩ ∧ pid < n ∧ OSb A pid m n oc ls
theorem v_drawn {pid : Nat} {m : Mem} {n : Nat} {pc oc : Cell} {ph k left : Int} {o : Bool} (h : m pid = some ⟨[pc, I ph, I k, I left, oc], o⟩) (hk : 0 ≤ k) : callF TA 39 [.one (.ptr pid 0)] m n = some (RB (decide (k % 2 = 0))) := by
  refine callF_of (Fn_ofK (fn := F39) rfl (by simp [F39]) ?_)
  have e : k.tmod 2 = k % 2 := Int.tmod_eq_emod_of_nonneg hk
  try simp only [r39_0, r39_1, c39, F39, h, e, go_sem, Int.reduceTMod, Int.reduceTDiv, Int.reduceDiv, Int.reduceMod, Int.reduceAdd, Int.reduceSub, Int.reduceMul, Int.reduceNeg, Int.reducePow, Int.reduceEq, ↓reduceIte, Nat.reduceEqDiff, Nat.reduceAdd, Nat.reduceMul, Nat.reduceLeDiff, Nat.reduceSub, Nat.reduceLT, Int.reduceToNat, Int.reduceLT, Int.reduceLE, reduceCtorEq]
  repeat' ((first | refine FK_split (fun h_ => ?_) (fun h_ => ?_) | refine GK_split (fun h_ => ?_) (fun h_ => ?_) | refine ite_both (fun h_ => ?_) (fun h_ => ?_)) <;> (try simp only [decide_eq_true_eq, decide_eq_false_iff_not, Bool.not_true, Bool.not_false, Bool.not_eq_true', Bool.not_eq_false', Bool.not_eq_eq_eq_not, Decidable.not_not] at h_) <;> (try simp only [r39_0, r39_1, c39, F39, h, e, h_, go_sem, Int.reduceTMod, Int.reduceTDiv, Int.reduceDiv, Int.reduceMod, Int.reduceAdd, Int.reduceSub, Int.reduceMul, Int.reduceNeg, Int.reducePow, Int.reduceEq, ↓reduceIte, Nat.reduceEqDiff, Nat.reduceAdd, Nat.reduceMul, Nat.reduceLeDiff, Nat.reduceSub, Nat.reduceLT, Int.reduceToNat, Int.reduceLT, Int.reduceLE, reduceCtorEq]))
/-- A slot of the row has another slice: one of the pen's own, in a fresh block. -/
theorem OSb.set {A : Nat → Prop} {pid : Nat} {m m' : Mem} {n n' : Nat} {id : Nat} {ca : List Cell} {cl c' : Cell} {a : List (List Pt)} {x x' : List Pt}
    (h1 : OL encS 2 (pid + 1) m n (.one (.sl id 0 (ca ++ [cl]).length none 2)) (ca ++ [cl])) (h2 : ¬ A id) (h3 : (ca ++ [cl]).length = (a ++ [x]).length)
    (h4 : ∀ (i : Nat) (l : List Pt), (a ++ [x])[i]? = some l → ∃ c, (ca ++ [cl])[i]? = some c ∧ OPc (pid + 1) m n c l ∧ ∀ j, sid (.one c) = some j → (¬ A j ∧ sid (.one (.sl id 0 (ca ++ [cl]).length none 2)) ≠ some j) ∧ ∀ i' c', i' ≠ i → (ca ++ [cl])[i']? = some c' → sid (.one c') ≠ some j)
    (hid : pid + 1 ≤ id ∧ id < n) (hn : n ≤ n') (hx : OPc (pid + 1) m' n' c' x') (hs : ∀ j, sid (.one c') = some j → n ≤ j ∧ ¬ A j) (hrow : m' id = some ⟨(ca ++ [c']).flatMap encS, true⟩)
    (hf : ∀ j, j < n → j ≠ id → sid (.one cl) ≠ some j → pid + 1 ≤ j → m' j = m j) : OSb A pid m' n' (.sl id 0 (ca ++ [cl]).length none 2) (a ++ [x']) := by
  have hla : ca.length = a.length := by simpa using h3
  refine ⟨ca ++ [c'], Or.inr ⟨id, by simp, hid.1, by omega, hrow⟩, fun j hj => ?_, by simpa using h3, fun i l hi => ?_⟩
  · simp only [sid, Option.some.injEq] at hj
    subst hj; exact h2
  · by_cases hlt : i < a.length
    · rw [List.getElem?_append_left hlt] at hi
      obtain ⟨c, k1, k2, k3⟩ := h4 i l (by rw [List.getElem?_append_left hlt]; exact hi)
      rw [List.getElem?_append_left (by omega)] at k1
      have hne : ∀ j, sid (.one c) = some j → sid (.one cl) ≠ some j := fun j hj => (k3 j hj).2 ca.length cl (by omega) (by rw [List.getElem?_append_right (Nat.le_refl _), Nat.sub_self]; rfl)
      have hj : ∀ j, sid (.one c) = some j → pid + 1 ≤ j ∧ j < n := fun j hj => OPc.lt k2 hj
      refine ⟨c, by rw [List.getElem?_append_left (by omega)]; exact k1, ?_, fun j hj' => ⟨⟨(k3 j hj').1.1, (k3 j hj').1.2⟩, fun i' c2 hi' hc2 => ?_⟩⟩
      · exact k2.keep hn (fun id2 hs2 => hf id2 (k2.lt hs2).2 (fun e => (k3 id2 hs2).1.2 (by rw [e]; rfl)) (hne id2 hs2) (k2.lt hs2).1)
      · by_cases hlt2 : i' < ca.length
        · rw [List.getElem?_append_left hlt2] at hc2
          exact (k3 j hj').2 i' c2 hi' (by rw [List.getElem?_append_left hlt2]; exact hc2)
        · rw [List.getElem?_append_right (by omega)] at hc2
          obtain ⟨t, ht⟩ : ∃ t, i' - ca.length = t := ⟨_, rfl⟩
          rw [ht] at hc2
          cases t with
          | zero =>
            simp at hc2
            subst hc2
            intro e
            have := (hs j e).1
            have := (hj j hj').2
            omega
          | succ t => simp at hc2
    · have he : i = a.length := by
        have := (List.getElem?_eq_some_iff.1 hi).1
        simp at this
        omega
      subst he
      rw [List.getElem?_append_right (Nat.le_refl _), Nat.sub_self] at hi
      simp at hi
      subst hi
      refine ⟨c', by rw [← hla, List.getElem?_append_right (Nat.le_refl _), Nat.sub_self]; rfl, hx, fun j hj => ⟨⟨(hs j hj).2, fun e => ?_⟩, fun i' c2 hi' hc2 => ?_⟩⟩
      · simp only [sid, Option.some.injEq] at e
        have := (hs j hj).1
        omega
      · have hlt2 : i' < ca.length := by
          have := (List.getElem?_eq_some_iff.1 hc2).1
          simp at this
          omega
        rw [List.getElem?_append_left hlt2] at hc2
        have hl2 : (a ++ [x])[i']? = some (a[i']'(by omega)) := by rw [List.getElem?_append_left (by omega)]; exact List.getElem?_eq_getElem (by omega)
        obtain ⟨c3, k1, k2, k3⟩ := h4 i' _ hl2
        rw [List.getElem?_append_left hlt2, hc2] at k1
        cases k1
        intro e
        have := (OPc.lt k2 e).2
        have := (hs j hj).1
        omega
set_option maxHeartbeats 1000000 in
theorem w_point {A : Nat → Prop} {pid : Nat} {m : Mem} {n : Nat} {pc : Cell} {ph k left : Int} {a : List (List Pt)} {x : List Pt} {p : Pt} (h : DPen A pid m n pc ph k left (a ++ [x])) (hA : ∀ j, A j → j < n) (hl : a.length < 100000) (hx : x.length < 4294967295) :
    Fn TA 50 [.one (.ptr pid 0), .agg [I p.x, I p.y]] m n (fun _ m' n' => n ≤ n' ∧ DPen A pid m' n' pc ph k left (a ++ [x ++ [p]]) ∧ ∀ id, id < n → (id < pid ∨ A id) → m' id = m id) := by
  refine Fn_ofK (fn := F50) rfl (by simp [F50]) ?_
  obtain ⟨oc, hp, hpn, cs, h1, h2, h3, h4⟩ := h
  obtain ⟨ca, cl, rfl⟩ : ∃ ca cl, cs = ca ++ [cl] := by
    have hne : cs ≠ [] := fun e => by rw [e] at h3; simp at h3
    exact ⟨cs.dropLast, cs.getLast hne, (List.dropLast_concat_getLast hne).symm⟩
  have hla : ca.length = a.length := by simpa using h3
  obtain ⟨oid, rfl, i1, i2, hrow⟩ : ∃ oid, oc = .sl oid 0 (ca ++ [cl]).length none 2 ∧ pid + 1 ≤ oid ∧ oid < n ∧ m oid = some ⟨(ca ++ [cl]).flatMap encS, true⟩ := by
    rcases h1 with ⟨_, e⟩ | ⟨id, e1, e2, e3, e4⟩
    · simp at e
    · simp only [Reg.one.injEq] at e1
      exact ⟨id, e1, e2, e3, e4⟩
  obtain ⟨c0, k1, k2, k3⟩ := h4 a.length x (by rw [List.getElem?_append_right (Nat.le_refl _), Nat.sub_self]; rfl)
  rw [← hla, List.getElem?_append_right (Nat.le_refl _), Nat.sub_self] at k1
  simp at k1
  subst k1
  have hlc : (ca ++ [cl]).length = ca.length + 1 := by simp
  have d1 : IntKind.i64.wrap (((ca ++ [cl]).length : Int) - 1) = (ca.length : Int) := (wr_eq (by omega) (by omega)).trans (by omega)
  have d2 : (0 ≤ (ca.length : Int)) = True := eq_true (by omega)
  have d3 : ((ca.length : Int) < ((ca ++ [cl]).length : Int)) = True := eq_true (by omega)
  have n1 := na_0 hpn
  have n2 : ∀ k, (pid = n + k) = False := fun k => na_ne hpn
  have n3 := na_0 i2
  have n4 : ∀ k, (oid = n + k) = False := fun k => na_ne i2
  have hal := at_last ca cl
  try simp only [r50_0, r50_1, r50_2, c50, F50, hp, lenO, d1, d2, d3, n1, n2, n3, n4, hrow, hal, Int.toNat_natCast, Nat.zero_add, go_sem, Int.reduceTMod, Int.reduceTDiv, Int.reduceDiv, Int.reduceMod, Int.reduceAdd, Int.reduceSub, Int.reduceMul, Int.reduceNeg, Int.reducePow, Int.reduceEq, ↓reduceIte, Nat.reduceEqDiff, Nat.reduceAdd, Nat.reduceMul, Nat.reduceLeDiff, Nat.reduceSub, Nat.reduceLT, Int.reduceToNat, Int.reduceLT, Int.reduceLE, reduceCtorEq]
  repeat' ((first | refine FK_split (fun h_ => ?_) (fun h_ => ?_) | refine GK_split (fun h_ => ?_) (fun h_ => ?_) | refine ite_both (fun h_ => ?_) (fun h_ => ?_)) <;> (try simp only [decide_eq_true_eq, decide_eq_false_iff_not, Bool.not_true, Bool.not_false, Bool.not_eq_true', Bool.not_eq_false', Bool.not_eq_eq_eq_not, Decidable.not_not] at h_) <;> (try simp only [r50_0, r50_1, r50_2, c50, F50, hp, lenO, d1, d2, d3, n1, n2, n3, n4, hrow, hal, Int.toNat_natCast, Nat.zero_add, h_, go_sem, Int.reduceTMod, Int.reduceTDiv, Int.reduceDiv, Int.reduceMod, Int.reduceAdd, Int.reduceSub, Int.reduceMul, Int.reduceNeg, Int.reducePow, Int.reduceEq, ↓reduceIte, Nat.reduceEqDiff, Nat.reduceAdd, Nat.reduceMul, Nat.reduceLeDiff, Nat.reduceSub, Nat.reduceLT, Int.reduceToNat, Int.reduceLT, Int.reduceLE, reduceCtorEq]))
  refine K_pushQ (p := p) (o := true) k2 (by omega) (fun id hi => by have := k2.lt hi; rw [upd_ne _ _ (by omega), upd_ne _ _ (by omega)]) (upd_same _ _ _) (by omega) (by omega) ?_
  intro c' m' ho hfr hsc
  have hne : sid (.one cl) ≠ some oid := fun e => (k3 oid e).1.2 rfl
  have hnp : sid (.one cl) ≠ some pid := fun e => by have := OPc.lt k2 e; omega
  have hrow' : m' oid = some ⟨(ca ++ [cl]).flatMap encS, true⟩ := by rw [hfr oid (by omega) hne, upd_ne _ _ (by omega), upd_ne _ _ (by omega)]; exact hrow
  try simp only [hrow', set_last, fit_last, go_sem, Int.reduceTMod, Int.reduceTDiv, Int.reduceDiv, Int.reduceMod, Int.reduceAdd, Int.reduceSub, Int.reduceMul, Int.reduceNeg, Int.reducePow, Int.reduceEq, ↓reduceIte, Nat.reduceEqDiff, Nat.reduceAdd, Nat.reduceMul, Nat.reduceLeDiff, Nat.reduceSub, Nat.reduceLT, Int.reduceToNat, Int.reduceLT, Int.reduceLE, reduceCtorEq]
  repeat' ((first | refine FK_split (fun h_ => ?_) (fun h_ => ?_) | refine GK_split (fun h_ => ?_) (fun h_ => ?_) | refine ite_both (fun h_ => ?_) (fun h_ => ?_)) <;> (try simp only [decide_eq_true_eq, decide_eq_false_iff_not, Bool.not_true, Bool.not_false, Bool.not_eq_true', Bool.not_eq_false', Bool.not_eq_eq_eq_not, Decidable.not_not] at h_) <;> (try simp only [hrow', set_last, fit_last, h_, go_sem, Int.reduceTMod, Int.reduceTDiv, Int.reduceDiv, Int.reduceMod, Int.reduceAdd, Int.reduceSub, Int.reduceMul, Int.reduceNeg, Int.reducePow, Int.reduceEq, ↓reduceIte, Nat.reduceEqDiff, Nat.reduceAdd, Nat.reduceMul, Nat.reduceLeDiff, Nat.reduceSub, Nat.reduceLT, Int.reduceToNat, Int.reduceLT, Int.reduceLE, reduceCtorEq]))
  have hold : ∀ j, j < n → j ≠ oid → sid (.one cl) ≠ some j → upd m' oid (some ⟨(ca ++ [c']).flatMap encS, true⟩) j = m j := fun j q1 q2 q3 => by
    rw [upd_ne _ _ q2, hfr j (by omega) q3, upd_ne _ _ (by omega), upd_ne _ _ (by omega)]
  refine ⟨by omega, ⟨_, ?_, by omega, OSb.set h1 (h2 oid rfl) h3 h4 ⟨i1, i2⟩ (by omega) ?_ (fun j hj => ?_) (upd_same _ _ _) (fun j q1 q2 q3 _ => hold j q1 q2 q3)⟩, fun id q1 q2 => hold id q1 ?_ ?_⟩
  · rw [hold pid hpn (by omega) hnp]; exact hp
  · exact ho.keep (Nat.le_refl _) (fun id2 hi => by have := hsc id2 hi; exact upd_ne _ _ (by omega))
  · have := hsc j hj
    exact ⟨by omega, fun ha => by have := hA j ha; omega⟩
  · rcases q2 with q2 | q2
    · omega
    · exact fun e => h2 oid rfl (e ▸ q2)
  · rcases q2 with q2 | q2
    · exact fun e => by have := OPc.lt k2 e; omega
    · exact fun e => (k3 id e).1.1 q2

/- A pen that goes along a way: the next length. Conditions: those that each theorem names. -/
open Go Go.Proofs
set_option linter.unusedSimpArgs false
set_option linter.unusedVariables false

theorem DPen.keep {A A' : Nat → Prop} {pid : Nat} {m m' : Mem} {n n' : Nat} {pc : Cell} {ph k left : Int} {ls : List (List Pt)} (h : DPen A pid m n pc ph k left ls) (hn : n ≤ n') (hp : m' pid = m pid) (hf : ∀ id, pid + 1 ≤ id → id < n → ¬ A id → m' id = m id) (hA : ∀ j, j < n → A' j → A j) : DPen A' pid m' n' pc ph k left ls := by
  obtain ⟨oc, h1, h2, h3⟩ := h
  exact ⟨oc, by rw [hp]; exact h1, by omega, h3.keep hn hf hA⟩
theorem K_piece {T : Nat → Option SFun} {A : Nat → Prop} {pid : Nat} {M : Mem} {N by' : Nat} {oc : Cell} {ls : List (List Pt)} {p : Pt} {d : Option Nat} {os : List SOper} {e : Nat → Reg} {k : Kt}
    (h : OSb A pid M N oc ls) (hpN : pid < N) (hA : ∀ j, A j → j < N) (hl : ls.length < 4294967290)
    (next : ∀ c m', OSb A pid m' (N + 3) c (ls ++ [[p]]) → (∀ id, id < N → (id ≤ pid ∨ A id) → m' id = M id) → (∀ id, sid (.one c) = some id → id = N + 2) → RK T os (putE e d (.one c)) m' (N + 3) k) :
    ThenK T d os e k (evApp (upd (upd M N (some ⟨[I p.x, I p.y], true⟩)) (N + 1) (some ⟨[.sl N 0 1 (some 1) 2, .sc (.bool false)], true⟩)) (N + 2) 2 by' (.one oc) (.one (.sl (N + 1) 0 1 (some 1) 2))) := by
  obtain ⟨cs, h1, h2, h3, h4⟩ := h
  refine K_pushC sc2 (by decide) (p := .sl N 0 1 (some 1) 2) (o := true) h1 (show N ≤ N + 2 by omega) (fun id q1 q2 => by rw [upd_ne _ _ (by omega), upd_ne _ _ (by omega)]) (upd_same _ _ _) (by rw [h3]; omega) (by omega) ?_
  intro c m' ho hfr hsc
  have hold : ∀ id, id < N → sid (.one oc) ≠ some id → m' id = M id := fun id q1 q2 => by rw [hfr id (by omega) q2, upd_ne _ _ (by omega), upd_ne _ _ (by omega)]
  have hoc : ∀ id, sid (.one oc) = some id → pid + 1 ≤ id ∧ id < N := fun id hid => OLs.lt h1 hid
  have hN : m' N = some ⟨[I p.x, I p.y], true⟩ := by rw [hfr N (by omega) (fun e => by have := hoc N e; omega), upd_ne _ _ (by omega), upd_same]
  have hnA : ¬ A N := fun ha => by have := hA N ha; omega
  have hnA2 : ¬ A (N + 2) := fun ha => by have := hA _ ha; omega
  refine next c m' ⟨cs ++ [.sl N 0 1 (some 1) 2], ho, fun j hj => by rw [hsc j hj]; exact hnA2, by simp [h3], fun i l hi => ?_⟩ (fun id q1 q2 => hold id q1 ?_) hsc
  · by_cases hlt : i < ls.length
    · rw [List.getElem?_append_left hlt] at hi
      obtain ⟨c2, k1, k2, k3⟩ := h4 i l hi
      refine ⟨c2, by rw [List.getElem?_append_left (by omega)]; exact k1, k2.keep (by omega) (fun id hid => hold id (k2.lt hid).2 (k3 id hid).1.2), fun j hj => ⟨⟨(k3 j hj).1.1, fun e => ?_⟩, fun i' c' hi' hc' => ?_⟩⟩
      · have := hsc j e
        have := (k2.lt hj).2
        omega
      · by_cases hlt2 : i' < cs.length
        · rw [List.getElem?_append_left hlt2] at hc'
          exact (k3 j hj).2 i' c' hi' hc'
        · rw [List.getElem?_append_right (by omega)] at hc'
          obtain ⟨t, ht⟩ : ∃ t, i' - cs.length = t := ⟨_, rfl⟩
          rw [ht] at hc'
          cases t with
          | zero =>
            simp at hc'
            subst hc'
            intro e
            simp only [sid, Option.some.injEq] at e
            have := (k2.lt hj).2
            omega
          | succ t => simp at hc'
    · have he : i = ls.length := by
        have := (List.getElem?_eq_some_iff.1 hi).1
        simp at this
        omega
      subst he
      rw [List.getElem?_append_right (Nat.le_refl _), Nat.sub_self] at hi
      simp at hi
      subst hi
      refine ⟨.sl N 0 1 (some 1) 2, by rw [← h3, List.getElem?_append_right (Nat.le_refl _), Nat.sub_self]; rfl, ⟨N, some 1, rfl, by omega, by omega, by rw [hN]; simp, Or.inr rfl⟩, fun j hj => ?_⟩
      simp only [sid, Option.some.injEq] at hj
      subst hj
      refine ⟨⟨hnA, fun e => by have := hsc _ e; omega⟩, fun i' c' hi' hc' => ?_⟩
      have hlt2 : i' < cs.length := by
        have := (List.getElem?_eq_some_iff.1 hc').1
        simp at this
        omega
      rw [List.getElem?_append_left hlt2] at hc'
      have hl2 : ls[i']? = some (ls[i']'(by omega)) := List.getElem?_eq_getElem (by omega)
      obtain ⟨c3, k1, k2, k3⟩ := h4 i' _ hl2
      rw [hc'] at k1
      cases k1
      intro e
      have := (k2.lt e).2
      omega
  · rcases q2 with q2 | q2
    · exact fun e => by have := hoc id e; omega
    · exact fun e => h2 id e q2
/-- The pieces behind the next length. -/
def nextL (k k' : Int) (ls : List (List Pt)) (p : Pt) : List (List Pt) :=
  (if k % 2 = 0 then addL ls p else ls) ++ (if k' % 2 = 0 then [[p]] else [])
set_option maxHeartbeats 2000000 in
theorem w_next {A : Nat → Prop} {pid : Nat} {m : Mem} {n : Nat} {pc : Cell} {ph k left : Int} {ls : List (List Pt)} {p : Pt} {pat : List Int} {x : Int} (h : DPen A pid m n pc ph k left ls) (hA : ∀ j, A j → j < n) (hAp : ¬ A pid) (hr : RIn m n (.one pc) pat) (hb : ∀ id, sid (.one pc) = some id → id < pid)
    (hk : 0 ≤ k) (hk2 : k < pat.length) (hpl : pat.length < 100) (hne : k % 2 = 0 → ls ≠ []) (hl : ls.length < 10000) (hx : ∀ l ∈ ls, l.length < 4294967000) (hat : pat[((k + 1) % pat.length).toNat]? = some x) :
    Fn TA 49 [.one (.ptr pid 0), .agg [I p.x, I p.y]] m n (fun _ m' n' => n ≤ n' ∧ DPen A pid m' n' pc ph ((k + 1) % pat.length) x (nextL k ((k + 1) % pat.length) ls p) ∧ ∀ id, id < n → (id < pid ∨ A id) → m' id = m id) := by
  refine Fn_ofK (fn := F49) rfl (by simp [F49]) ?_
  obtain ⟨oc, hp, hpn, hO⟩ := h
  have n1 := na_0 hpn
  have vd := v_drawn (pid := pid) (m := frz (upd m n (some ⟨[I p.x, I p.y], true⟩))) (n := n + 1) (pc := pc) (oc := oc) (ph := ph) (k := k) (left := left) (o := false) (by rw [frz_at, upd_ne _ _ (by omega), hp]; rfl) hk
  have hDP : DPen (fun j => A j ∨ j = n) pid (upd m n (some ⟨[I p.x, I p.y], true⟩)) (n + 1) pc ph k left ls :=
    ⟨oc, by rw [upd_ne _ _ (by omega)]; exact hp, by omega, hO.keep (by omega) (fun id q1 q2 q3 => upd_ne _ _ (by omega)) (fun j q1 q2 => q2.elim id (fun e => by omega))⟩
  have hk' : 0 ≤ (k + 1) % (pat.length : Int) ∧ (k + 1) % (pat.length : Int) < pat.length := ⟨Int.emod_nonneg _ (by omega), Int.emod_lt_of_pos _ (by omega)⟩
  have e1 : (k + 1).tmod (pat.length : Int) = (k + 1) % pat.length := Int.tmod_eq_emod_of_nonneg (by omega)
  have e2 : IntKind.i64.wrap (k + 1) = k + 1 := wr_eq (by omega) (by omega)
  have e3 : ((pat.length : Int) = 0) = False := eq_false (by omega)
  obtain ⟨k', hk'e⟩ : ∃ k', k' = (k + 1) % (pat.length : Int) := ⟨_, rfl⟩
  rw [← hk'e] at hk' e1 hat ⊢
  -- what is left to do behind the point
  obtain ⟨ls1, hls1⟩ : ∃ ls1, ls1 = (if k % 2 = 0 then addL ls p else ls) := ⟨_, rfl⟩
  have hnx : nextL k k' ls p = ls1 ++ (if k' % 2 = 0 then [[p]] else []) := by rw [hls1]; rfl
  rw [hnx]
  have hll : ls1.length < 20000 → True := fun _ => trivial
  have tail : ∀ (M : Mem) (N : Nat), n + 1 ≤ N → ls1.length < 20000 → DPen (fun j => A j ∨ j = n) pid M N pc ph k left ls1 → (∀ id, id < n → (id < pid ∨ A id) → M id = m id) → M n = some ⟨[I p.x, I p.y], true⟩ →
      ∀ e : Nat → Reg, e 0 = .one (.ptr pid 0) → e 3 = .one (.ptr n 0) → RK TA r49_3 e M N (Kt.seq (.seq (.reg r49_4) (.seq (.reg r49_5) (.cond (.t 39) (.reg r49_6) .skip))) (Kt.fin [] fun _ m' n' => n ≤ n' ∧ DPen A pid m' n' pc ph k' x (ls1 ++ (if k' % 2 = 0 then [[p]] else [])) ∧ ∀ id, id < n → (id < pid ∨ A id) → m' id = m id)) := by
    intro M N hN hl1 hD hf hbox e g0 g3
    obtain ⟨oc1, gp, gpn, gO⟩ := hD
    have hrM : RIn M N (.one pc) pat := hr.keep' (by omega) (fun id hid => hf id (by have := hb id hid; omega) (Or.inl (hb id hid)))
    obtain ⟨id, off, cap, b, hpc, hid, hbb, hcc⟩ := RL.int hrM hat
    simp only [Reg.one.injEq] at hpc
    have hidp : id < pid := hb id (by rw [hpc]; rfl)
    have d1 : (0 ≤ k') = True := eq_true hk'.1
    have d2 : (k' < (pat.length : Int)) = True := eq_true hk'.2
    have z1 := na_0 hpn
    have z2 : (id = pid) = False := eq_false (by omega)
    have z3 := na_0 (show n < N by omega)
    have z4 : (n = pid) = False := eq_false (by omega)
    have vd2 := fun (M' : Mem) (N' : Nat) (oc' : Cell) (hM' : M' pid = some ⟨[pc, I ph, I k', I x, oc'], true⟩) => v_drawn (pid := pid) (m := frz M') (n := N') (pc := pc) (oc := oc') (ph := ph) (k := k') (left := x) (o := false) (by rw [frz_at, hM']; rfl) hk'.1
    rw [hpc] at gp vd2
    have vd3 := vd2 (upd (upd M pid (some ⟨[.sl id off pat.length cap 1, I ph, I k', I left, oc1], true⟩)) pid (some ⟨[.sl id off pat.length cap 1, I ph, I k', I x, oc1], true⟩)) N oc1 (upd_same _ _ _)
    rw [hpc]
    cases hd : decide (k' % 2 = 0)
    · rw [hd] at vd3
      try simp only [r49_3, r49_4, r49_5, g0, gp, rd_of gp, e1, e2, e3, d1, d2, z2, hbb, hcc, lenO, vd3, Nat.mul_one, go_sem, Int.reduceTMod, Int.reduceTDiv, Int.reduceDiv, Int.reduceMod, Int.reduceAdd, Int.reduceSub, Int.reduceMul, Int.reduceNeg, Int.reducePow, Int.reduceEq, ↓reduceIte, Nat.reduceEqDiff, Nat.reduceAdd, Nat.reduceMul, Nat.reduceLeDiff, Nat.reduceSub, Nat.reduceLT, Int.reduceToNat, Int.reduceLT, Int.reduceLE, reduceCtorEq]
      repeat' ((first | refine FK_split (fun h_ => ?_) (fun h_ => ?_) | refine GK_split (fun h_ => ?_) (fun h_ => ?_) | refine ite_both (fun h_ => ?_) (fun h_ => ?_)) <;> (try simp only [decide_eq_true_eq, decide_eq_false_iff_not, Bool.not_true, Bool.not_false, Bool.not_eq_true', Bool.not_eq_false', Bool.not_eq_eq_eq_not, Decidable.not_not] at h_) <;> (try simp only [r49_3, r49_4, r49_5, g0, gp, rd_of gp, e1, e2, e3, d1, d2, z2, hbb, hcc, lenO, vd3, Nat.mul_one, h_, go_sem, Int.reduceTMod, Int.reduceTDiv, Int.reduceDiv, Int.reduceMod, Int.reduceAdd, Int.reduceSub, Int.reduceMul, Int.reduceNeg, Int.reducePow, Int.reduceEq, ↓reduceIte, Nat.reduceEqDiff, Nat.reduceAdd, Nat.reduceMul, Nat.reduceLeDiff, Nat.reduceSub, Nat.reduceLT, Int.reduceToNat, Int.reduceLT, Int.reduceLE, reduceCtorEq]))
      have hk1 : ¬ (k' % 2 = 0) := of_decide_eq_false hd
      rw [if_neg hk1, List.append_nil]
      refine ⟨by omega, ⟨oc1, upd_same _ _ _, gpn, gO.keep (Nat.le_refl _) (fun j q1 q2 q3 => by rw [upd_ne _ _ (by omega), upd_ne _ _ (by omega)]) (fun j _ ha => Or.inl ha)⟩, fun j q1 q2 => ?_⟩
      have hjp : ¬ j = pid := fun e => q2.elim (fun h => by omega) (fun h => hAp (e ▸ h))
      rw [if_neg hjp, if_neg hjp]
      exact hf j q1 q2
    · rw [hd] at vd3
      try simp only [r49_3, r49_4, r49_5, r49_6, g0, g3, gp, rd_of gp, e1, e2, e3, d1, d2, z2, z3, z4, hbb, hcc, lenO, vd3, hbox, rd_of hbox, Nat.mul_one, go_sem, Int.reduceTMod, Int.reduceTDiv, Int.reduceDiv, Int.reduceMod, Int.reduceAdd, Int.reduceSub, Int.reduceMul, Int.reduceNeg, Int.reducePow, Int.reduceEq, ↓reduceIte, Nat.reduceEqDiff, Nat.reduceAdd, Nat.reduceMul, Nat.reduceLeDiff, Nat.reduceSub, Nat.reduceLT, Int.reduceToNat, Int.reduceLT, Int.reduceLE, reduceCtorEq]
      repeat' ((first | refine FK_split (fun h_ => ?_) (fun h_ => ?_) | refine GK_split (fun h_ => ?_) (fun h_ => ?_) | refine ite_both (fun h_ => ?_) (fun h_ => ?_)) <;> (try simp only [decide_eq_true_eq, decide_eq_false_iff_not, Bool.not_true, Bool.not_false, Bool.not_eq_true', Bool.not_eq_false', Bool.not_eq_eq_eq_not, Decidable.not_not] at h_) <;> (try simp only [r49_3, r49_4, r49_5, r49_6, g0, g3, gp, rd_of gp, e1, e2, e3, d1, d2, z2, z3, z4, hbb, hcc, lenO, vd3, hbox, rd_of hbox, Nat.mul_one, h_, go_sem, Int.reduceTMod, Int.reduceTDiv, Int.reduceDiv, Int.reduceMod, Int.reduceAdd, Int.reduceSub, Int.reduceMul, Int.reduceNeg, Int.reducePow, Int.reduceEq, ↓reduceIte, Nat.reduceEqDiff, Nat.reduceAdd, Nat.reduceMul, Nat.reduceLeDiff, Nat.reduceSub, Nat.reduceLT, Int.reduceToNat, Int.reduceLT, Int.reduceLE, reduceCtorEq]))
      have hk1 : k' % 2 = 0 := of_decide_eq_true hd
      rw [if_pos hk1]
      refine K_piece (A := fun j => A j ∨ j = n) (gO.keep (Nat.le_refl _) (fun j q1 q2 q3 => by rw [upd_ne _ _ (by omega), upd_ne _ _ (by omega)]) (fun j _ ha => ha)) gpn (fun j ha => ha.elim (fun h => by have := hA j h; omega) (fun h => by omega)) (by omega) ?_
      intro c m' hO2 hf2 hsc
      have gp2 : m' pid = some ⟨[.sl id off pat.length cap 1, I ph, I k', I x, oc1], true⟩ := by rw [hf2 pid gpn (Or.inl (Nat.le_refl _)), upd_same]
      try simp only [gp2, rd_of gp2, go_sem, Int.reduceTMod, Int.reduceTDiv, Int.reduceDiv, Int.reduceMod, Int.reduceAdd, Int.reduceSub, Int.reduceMul, Int.reduceNeg, Int.reducePow, Int.reduceEq, ↓reduceIte, Nat.reduceEqDiff, Nat.reduceAdd, Nat.reduceMul, Nat.reduceLeDiff, Nat.reduceSub, Nat.reduceLT, Int.reduceToNat, Int.reduceLT, Int.reduceLE, reduceCtorEq]
      repeat' ((first | refine FK_split (fun h_ => ?_) (fun h_ => ?_) | refine GK_split (fun h_ => ?_) (fun h_ => ?_) | refine ite_both (fun h_ => ?_) (fun h_ => ?_)) <;> (try simp only [decide_eq_true_eq, decide_eq_false_iff_not, Bool.not_true, Bool.not_false, Bool.not_eq_true', Bool.not_eq_false', Bool.not_eq_eq_eq_not, Decidable.not_not] at h_) <;> (try simp only [gp2, rd_of gp2, h_, go_sem, Int.reduceTMod, Int.reduceTDiv, Int.reduceDiv, Int.reduceMod, Int.reduceAdd, Int.reduceSub, Int.reduceMul, Int.reduceNeg, Int.reducePow, Int.reduceEq, ↓reduceIte, Nat.reduceEqDiff, Nat.reduceAdd, Nat.reduceMul, Nat.reduceLeDiff, Nat.reduceSub, Nat.reduceLT, Int.reduceToNat, Int.reduceLT, Int.reduceLE, reduceCtorEq]))
      have hcp : ∀ j, sid (.one c) = some j → j ≠ pid := fun j hj => by have := hsc j hj; omega
      refine ⟨by omega, ⟨c, upd_same _ _ _, by omega, hO2.keep (Nat.le_refl _) (fun j q1 q2 q3 => upd_ne _ _ (by omega)) (fun j _ ha => Or.inl ha)⟩, fun j q1 q2 => ?_⟩
      have hjp : ¬ j = pid := fun e => q2.elim (fun h => by omega) (fun h => hAp (e ▸ h))
      rw [if_neg hjp, hf2 j (by omega) (q2.elim (fun h => Or.inl (by omega)) (fun h => Or.inr (Or.inl h))), upd_ne _ _ hjp, upd_ne _ _ hjp]
      exact hf j q1 q2
  cases hd : decide (k % 2 = 0)
  · rw [hd] at vd
    have hk1 : ¬ (k % 2 = 0) := of_decide_eq_false hd
    rw [if_neg hk1] at hls1
    try simp only [F49, c49, r49_0, r49_1, r49_2, vd, go_sem, Int.reduceTMod, Int.reduceTDiv, Int.reduceDiv, Int.reduceMod, Int.reduceAdd, Int.reduceSub, Int.reduceMul, Int.reduceNeg, Int.reducePow, Int.reduceEq, ↓reduceIte, Nat.reduceEqDiff, Nat.reduceAdd, Nat.reduceMul, Nat.reduceLeDiff, Nat.reduceSub, Nat.reduceLT, Int.reduceToNat, Int.reduceLT, Int.reduceLE, reduceCtorEq]
    repeat' ((first | refine FK_split (fun h_ => ?_) (fun h_ => ?_) | refine GK_split (fun h_ => ?_) (fun h_ => ?_) | refine ite_both (fun h_ => ?_) (fun h_ => ?_)) <;> (try simp only [decide_eq_true_eq, decide_eq_false_iff_not, Bool.not_true, Bool.not_false, Bool.not_eq_true', Bool.not_eq_false', Bool.not_eq_eq_eq_not, Decidable.not_not] at h_) <;> (try simp only [F49, c49, r49_0, r49_1, r49_2, vd, h_, go_sem, Int.reduceTMod, Int.reduceTDiv, Int.reduceDiv, Int.reduceMod, Int.reduceAdd, Int.reduceSub, Int.reduceMul, Int.reduceNeg, Int.reducePow, Int.reduceEq, ↓reduceIte, Nat.reduceEqDiff, Nat.reduceAdd, Nat.reduceMul, Nat.reduceLeDiff, Nat.reduceSub, Nat.reduceLT, Int.reduceToNat, Int.reduceLT, Int.reduceLE, reduceCtorEq]))
    exact tail _ _ (Nat.le_refl _) (by rw [hls1]; omega) (by rw [hls1]; exact hDP) (fun j q1 q2 => upd_ne _ _ (by omega)) (upd_same _ _ _) _ (by simp only [go_sem, Int.reduceTMod, Int.reduceTDiv, Int.reduceDiv, Int.reduceMod, Int.reduceAdd, Int.reduceSub, Int.reduceMul, Int.reduceNeg, Int.reducePow, Int.reduceEq, ↓reduceIte, Nat.reduceEqDiff, Nat.reduceAdd, Nat.reduceMul, Nat.reduceLeDiff, Nat.reduceSub, Nat.reduceLT, Int.reduceToNat, Int.reduceLT, Int.reduceLE, reduceCtorEq]) (by simp only [go_sem, Int.reduceTMod, Int.reduceTDiv, Int.reduceDiv, Int.reduceMod, Int.reduceAdd, Int.reduceSub, Int.reduceMul, Int.reduceNeg, Int.reducePow, Int.reduceEq, ↓reduceIte, Nat.reduceEqDiff, Nat.reduceAdd, Nat.reduceMul, Nat.reduceLeDiff, Nat.reduceSub, Nat.reduceLT, Int.reduceToNat, Int.reduceLT, Int.reduceLE, reduceCtorEq])
  · rw [hd] at vd
    have hk1 : k % 2 = 0 := of_decide_eq_true hd
    rw [if_pos hk1] at hls1
    obtain ⟨a, y, rfl⟩ : ∃ a y, ls = a ++ [y] := ⟨ls.dropLast, ls.getLast (hne hk1), (List.dropLast_concat_getLast (hne hk1)).symm⟩
    rw [addL_snoc] at hls1
    try simp only [F49, c49, r49_0, r49_1, r49_2, vd, go_sem, Int.reduceTMod, Int.reduceTDiv, Int.reduceDiv, Int.reduceMod, Int.reduceAdd, Int.reduceSub, Int.reduceMul, Int.reduceNeg, Int.reducePow, Int.reduceEq, ↓reduceIte, Nat.reduceEqDiff, Nat.reduceAdd, Nat.reduceMul, Nat.reduceLeDiff, Nat.reduceSub, Nat.reduceLT, Int.reduceToNat, Int.reduceLT, Int.reduceLE, reduceCtorEq]
    repeat' ((first | refine FK_split (fun h_ => ?_) (fun h_ => ?_) | refine GK_split (fun h_ => ?_) (fun h_ => ?_) | refine ite_both (fun h_ => ?_) (fun h_ => ?_)) <;> (try simp only [decide_eq_true_eq, decide_eq_false_iff_not, Bool.not_true, Bool.not_false, Bool.not_eq_true', Bool.not_eq_false', Bool.not_eq_eq_eq_not, Decidable.not_not] at h_) <;> (try simp only [F49, c49, r49_0, r49_1, r49_2, vd, h_, go_sem, Int.reduceTMod, Int.reduceTDiv, Int.reduceDiv, Int.reduceMod, Int.reduceAdd, Int.reduceSub, Int.reduceMul, Int.reduceNeg, Int.reducePow, Int.reduceEq, ↓reduceIte, Nat.reduceEqDiff, Nat.reduceAdd, Nat.reduceMul, Nat.reduceLeDiff, Nat.reduceSub, Nat.reduceLT, Int.reduceToNat, Int.reduceLT, Int.reduceLE, reduceCtorEq]))
    refine RK_callw ?_
    have hla : (a ++ [y]).length = a.length + 1 := by simp
    refine (w_point hDP (fun j ha => ha.elim (fun h => by have := hA j h; omega) (fun h => by omega)) (by omega) (by have := hx y (by simp); omega)).mono ?_
    rintro _ m2 n2 ⟨hn2, hD2, hf2⟩
    try simp only [go_sem, Int.reduceTMod, Int.reduceTDiv, Int.reduceDiv, Int.reduceMod, Int.reduceAdd, Int.reduceSub, Int.reduceMul, Int.reduceNeg, Int.reducePow, Int.reduceEq, ↓reduceIte, Nat.reduceEqDiff, Nat.reduceAdd, Nat.reduceMul, Nat.reduceLeDiff, Nat.reduceSub, Nat.reduceLT, Int.reduceToNat, Int.reduceLT, Int.reduceLE, reduceCtorEq]
    repeat' ((first | refine FK_split (fun h_ => ?_) (fun h_ => ?_) | refine GK_split (fun h_ => ?_) (fun h_ => ?_) | refine ite_both (fun h_ => ?_) (fun h_ => ?_)) <;> (try simp only [decide_eq_true_eq, decide_eq_false_iff_not, Bool.not_true, Bool.not_false, Bool.not_eq_true', Bool.not_eq_false', Bool.not_eq_eq_eq_not, Decidable.not_not] at h_) <;> (try simp only [h_, go_sem, Int.reduceTMod, Int.reduceTDiv, Int.reduceDiv, Int.reduceMod, Int.reduceAdd, Int.reduceSub, Int.reduceMul, Int.reduceNeg, Int.reducePow, Int.reduceEq, ↓reduceIte, Nat.reduceEqDiff, Nat.reduceAdd, Nat.reduceMul, Nat.reduceLeDiff, Nat.reduceSub, Nat.reduceLT, Int.reduceToNat, Int.reduceLT, Int.reduceLE, reduceCtorEq]))
    exact tail _ _ (by omega) (by rw [hls1]; simp; omega) (by rw [hls1]; exact hD2) (fun j q1 q2 => by rw [hf2 j (by omega) (q2.elim Or.inl (fun h => Or.inr (Or.inl h))), upd_ne _ _ (by omega)]) (by rw [hf2 n (by omega) (Or.inr (Or.inr rfl)), upd_same]) _ (by simp only [go_sem, Int.reduceTMod, Int.reduceTDiv, Int.reduceDiv, Int.reduceMod, Int.reduceAdd, Int.reduceSub, Int.reduceMul, Int.reduceNeg, Int.reducePow, Int.reduceEq, ↓reduceIte, Nat.reduceEqDiff, Nat.reduceAdd, Nat.reduceMul, Nat.reduceLeDiff, Nat.reduceSub, Nat.reduceLT, Int.reduceToNat, Int.reduceLT, Int.reduceLE, reduceCtorEq]) (by simp only [go_sem, Int.reduceTMod, Int.reduceTDiv, Int.reduceDiv, Int.reduceMod, Int.reduceAdd, Int.reduceSub, Int.reduceMul, Int.reduceNeg, Int.reducePow, Int.reduceEq, ↓reduceIte, Nat.reduceEqDiff, Nat.reduceAdd, Nat.reduceMul, Nat.reduceLeDiff, Nat.reduceSub, Nat.reduceLT, Int.reduceToNat, Int.reduceLT, Int.reduceLE, reduceCtorEq])

/- A pen that goes along a line. Conditions: those that each theorem names. -/
open Go Go.Proofs
set_option linter.unusedSimpArgs false
set_option linter.unusedVariables false

/-- The lengths of a line that are begun in it; none: there are too many pieces. -/
noncomputable def lineGo (pat : List Int) (a b : Pt) (N : Int) : Nat → Int → Int → Int → List (List Pt) → Option (Int × Int × Int × List (List Pt))
  | 0, t, k, left, ls => some (t, k, left, ls)
  | f + 1, t, k, left, ls => if left < N - t then
      (if 4096 < (nextL k ((k + 1) % pat.length) ls (placeP a.x a.y b.x b.y (t + left) N)).length then none
       else lineGo pat a b N f (t + left) ((k + 1) % pat.length) (pat.getD ((k + 1) % pat.length).toNat 0) (nextL k ((k + 1) % pat.length) ls (placeP a.x a.y b.x b.y (t + left) N)))
      else some (t, k, left, ls)
def meas (N t left : Int) : Nat := 2 * (N - t).toNat + (if left = 0 then 1 else 0)
noncomputable def lenQ (a b : Pt) : Int := isq ((b.x - a.x) * (b.x - a.x) + (b.y - a.y) * (b.y - a.y))
/-- The end of a line. -/
def lineE (N : Int) (b : Pt) : Option (Int × Int × Int × List (List Pt)) → Option (Int × Int × List (List Pt))
  | none => none
  | some (t, k', left', ls') => some (k', left' - (N - t), if k' % 2 = 0 then addL ls' b else ls')
noncomputable def lineS (pat : List Int) (a b : Pt) (k left : Int) (ls : List (List Pt)) : Option (Int × Int × List (List Pt)) :=
  lineE (lenQ a b) b (lineGo pat a b (lenQ a b) (2 * (lenQ a b).toNat + 2) 0 k left ls)
theorem addL_len : ∀ (ls : List (List Pt)) (p : Pt), (addL ls p).length = ls.length
  | [], _ => rfl
  | [_], _ => rfl
  | x :: y :: l, p => by rw [addL, List.length_cons, addL_len (y :: l) p]; rfl
theorem addL_mem : ∀ (ls : List (List Pt)) (p : Pt), ∀ l ∈ addL ls p, ∃ l0 ∈ ls, l = l0 ∨ l = l0 ++ [p]
  | [], _, l, h => by cases h
  | [x], p, l, h => ⟨x, by simp, Or.inr (by simpa [addL] using h)⟩
  | x :: y :: t, p, l, h => by
    rw [addL, List.mem_cons] at h
    rcases h with rfl | h
    · exact ⟨l, by simp, Or.inl rfl⟩
    · obtain ⟨l0, h1, h2⟩ := addL_mem (y :: t) p l h
      exact ⟨l0, List.mem_cons_of_mem _ h1, h2⟩
theorem nextL_len (k k' : Int) (ls : List (List Pt)) (p : Pt) : (nextL k k' ls p).length = ls.length + (if k' % 2 = 0 then 1 else 0) := by
  unfold nextL
  rw [List.length_append]
  congr 1
  · split
    · exact addL_len _ _
    · rfl
  · split <;> rfl
/-- How long pieces may be: so long, and one more for each length that was begun. -/
def PBd (C k : Int) (ls : List (List Pt)) : Prop := ∀ l ∈ ls, (l.length : Int) ≤ C + 2 * ls.length + k % 2
/-- A pen under way. -/
structure LineI (pat : List Int) (C k left : Int) (ls : List (List Pt)) : Prop where
  k0 : 0 ≤ k
  k1 : k < pat.length
  l0 : 0 ≤ left
  l1 : left ≤ 1048576
  ne : k % 2 = 0 → ls ≠ []
  le : ls.length ≤ 4096
  bd : PBd C k ls
structure PatI (pat : List Int) : Prop where
  ev : pat.length % 2 = 0
  po : 0 < pat.length
  le : pat.length ≤ 8
  bd : ∀ x ∈ pat, 1 ≤ x ∧ x ≤ 1048576
theorem PatI.at {pat : List Int} (h : PatI pat) (k : Int) : ∃ x, pat[((k + 1) % pat.length).toNat]? = some x ∧ pat.getD ((k + 1) % pat.length).toNat 0 = x ∧ 1 ≤ x ∧ x ≤ 1048576 := by
  have h1 := h.po
  have h2 := Int.emod_nonneg (k + 1) (show (pat.length : Int) ≠ 0 by omega)
  have h3 := Int.emod_lt_of_pos (k + 1) (show 0 < (pat.length : Int) by omega)
  have hlt : ((k + 1) % (pat.length : Int)).toNat < pat.length := by omega
  refine ⟨pat[((k + 1) % (pat.length : Int)).toNat], List.getElem?_eq_getElem hlt, by simp [List.getD, List.getElem?_eq_getElem hlt], h.bd _ (List.getElem_mem hlt)⟩
theorem LineI.next {pat : List Int} (hp : PatI pat) {C k left : Int} {ls : List (List Pt)} (h : LineI pat C k left ls) (p : Pt) (hC : 1 ≤ C) (hlen : ¬ 4096 < (nextL k ((k + 1) % pat.length) ls p).length) :
    LineI pat C ((k + 1) % pat.length) (pat.getD ((k + 1) % pat.length).toNat 0) (nextL k ((k + 1) % pat.length) ls p) := by
  obtain ⟨x, e1, e2, x1, x2⟩ := hp.at k
  have h1 := hp.po
  have h2 := Int.emod_nonneg (k + 1) (show (pat.length : Int) ≠ 0 by omega)
  have h3 := Int.emod_lt_of_pos (k + 1) (show 0 < (pat.length : Int) by omega)
  have hev := hp.ev
  have hpar : ((k + 1) % (pat.length : Int)) % 2 = (k + 1) % 2 := by
    obtain ⟨d, hd⟩ : ∃ d, pat.length = 2 * d := ⟨pat.length / 2, by omega⟩
    have hm := Int.mul_ediv_add_emod (k + 1) (pat.length : Int)
    rw [hd] at hm ⊢
    generalize (k + 1) % ((2 * d : Nat) : Int) = r at *
    generalize (k + 1) / ((2 * d : Nat) : Int) = q at *
    have : ((2 * d : Nat) : Int) * q = 2 * ((d : Int) * q) := by rw [Int.natCast_mul, Int.mul_assoc]; rfl
    omega
  have hnl := nextL_len k ((k + 1) % pat.length) ls p
  rw [e2]
  refine ⟨h2, h3, by omega, by omega, fun he => ?_, by omega, fun l hl => ?_⟩
  · intro e
    rw [e, if_pos he] at hnl
    simp at hnl
  · rw [hnl, hpar]
    have hb := h.bd
    have hk := h.k0
    unfold nextL at hl
    rw [List.mem_append] at hl
    rcases hl with hl | hl
    · split at hl
      · rename_i hk2
        obtain ⟨l0, m1, m2⟩ := addL_mem ls p l hl
        have := hb l0 m1
        rcases m2 with rfl | rfl
        · split <;> omega
        · rw [List.length_append, List.length_singleton]
          split <;> omega
      · rename_i hk2
        have := hb l hl
        split <;> omega
    · split at hl
      · rename_i hk2
        simp at hl
        subst hl
        rw [hpar] at hk2
        rw [if_pos hk2, List.length_singleton]
        omega
      · cases hl

end Go.Proofs.Ytoakdmjpbachdaa.Sy
