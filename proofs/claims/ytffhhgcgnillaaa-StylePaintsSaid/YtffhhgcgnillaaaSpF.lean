/- Shades walked to their colours. Conditions: those that each theorem names. -/
import Derived.Test.YtffhhgcgnillaaaSpE
import Derived.Test.YtffhhgcgnillaaaSeB
namespace Go.Proofs.Ytffhhgcgnillaaa.Sy
open Go Go.Proofs
set_option linter.unusedSimpArgs false
set_option linter.unusedVariables false
set_option maxRecDepth 20000
attribute [local go_sem] XK_seq XK_block XK_skip XK_exit XK_ret XK_cond XK_reg XK_dreg XK_ureg KN_seq KN_blk KN_lp KN_chk KN_chku KN_top KN_fin KX_seq KX_lp KX_blk KX_chk KX_top KR_seq KR_blk KR_lp KR_chk KR_top KR_fin FK_true FK_false RK_nil RK_mv RK_pick RK_alloc RK_box RK_build RK_bslice RK_load1 RK_loadA RK_store RK_nilchk RK_bin RK_beq RK_eqv RK_eqnil RK_un RK_conv RK_mkfn RK_mkslice RK_slS RK_slA RK_fadr RK_fld RK_iadrA RK_iadrS RK_idxA RK_istr RK_ext RK_lenC RK_cap RK_app RK_appz RK_pre RK_cpy RK_mn RK_mx RK_len RK_carry RK_clr carryR um0 um1 ThenK_some RK_guard GK_tt GK_ff GK_tf GK_ft GK_none QK_some RK_callQ RK_callZ RK_callT TK_some VK_clo RK_callV
  evalOp evO evOs upd_at unfrz_at putE_some putE_none boolOf_b boolOf_tup Option.map_some evRes pack_one pack_two pack_three pack_none List.getD_cons_zero List.getD_cons_succ getD_nil
  Option.some.injEq exists_eq_left' Reg.cs? fillC setL List.set_cons_zero List.set_cons_succ List.length_cons List.length_nil rd_upd rd_updn rdB wr List.drop_zero List.drop_succ_cons List.take_succ_cons List.take_zero List.getElem?_cons_zero List.getElem?_cons_succ
  ix Int.toNat_zero lenO_sl lenO_nil nadd na_eq na_eq' na_lt na_ee na_ll na_ne na_ne' na_tt
attribute [local go_sem] Reg.flat_one Reg.flat_agg Reg.flat_tup flats_nil flats_cons Cell.flat_sc Cell.flat_ptr List.all_cons List.all_nil disOk safeOk safeR decide_eq_true_eq decide_eq_false_iff_not
  List.map_cons List.map_nil List.cons_append List.nil_append List.append_nil evalOp.capsOf Bool.false_bne Bool.bne_false Bool.true_bne Bool.bne_true bne_self_eq_false beq_self_eq_true Bool.not_not Bool.false_and Bool.and_false Bool.true_or Bool.or_true beq_iff_eq eqCells
  Bool.true_beq Bool.false_beq Bool.not_eq_true' Bool.not_eq_eq_eq_not Bool.not_eq_false' and_false false_and frz_at idOf noId Option.isSome_some Bool.and_eq_true
attribute [local go_sem] wr_eq bV_add bV_sub bV_mul bV_eql bV_neq bV_lss bV_leq bV_gtr bV_geq bV_quo bV_rem bV_shr bV_shl uV_not uV_neg wrapU bits_and bits_or bits_xor IntKind.bits Nat.min_eq_left Nat.min_eq_right Nat.min_self
attribute [local go_sem] bne_iff_ne Int.cast_ofNat_Int Nat.zero_add Nat.add_zero and_self and_true true_and ne_eq not_false_eq_true not_true_eq_false decide_true decide_false Bool.false_eq_true Bool.not_true Bool.not_false Bool.true_and Bool.and_true Bool.or_false Bool.false_or Bool.and_self

theorem rd_sub {m : Mem} {id off k a q : Nat} {cs : List Cell} (h : rd m id off k = some cs) (hq : a + q ≤ k) : rd m id (off + a) q = some ((cs.drop a).take q) := by
  unfold rd at h ⊢
  split at h
  case h_2 => cases h
  rename_i b hb
  split at h
  case isFalse => cases h
  rename_i hle
  cases h
  rw [if_pos (by omega), List.drop_take, List.take_take, List.drop_drop]
  congr 2
  omega
theorem at_stop {m : Mem} {n : Nat} {r : Reg} {l : List Stp} {i : Nat} {s : Stp} (h : RSt m n r l) (hs : l[i]? = some s) :
    ∃ id off cap b, r = .one (.sl id off l.length cap 5) ∧ id < n ∧ rd m id (off + i * 5) 5 = some s.cs ∧ m id = some b ∧ b.cells[off + i * 5]? = some (I s.a) ∧ rd m id (off + (i * 5 + 1)) 4 = some [U8 s.c0, U8 s.c1, U8 s.c2, U8 s.c3] := by
  obtain ⟨id, off, cap, h1, h2, h3⟩ := h.at cs5 hs
  obtain ⟨b, h4, h5⟩ := rd_cell h3 (a := 0) (c := I s.a) rfl
  have h6 := rd_sub (a := 1) (q := 4) h3 (by omega)
  rw [Nat.add_assoc] at h6
  exact ⟨id, off, cap, b, h1, h2, h3, h4, by rwa [Nat.add_zero] at h5, h6⟩
theorem Stp.co_by {s : Stp} (h : s.by) : s.co.by := h
set_option maxHeartbeats 2000000 in
theorem v_Shade {r : Reg} {l : List Stp} {t : Int} {m : Mem} {n : Nat} (hr : RSt m n r l) (hR : stopsB l = true) (hby : ∀ s ∈ l, s.by) : ∃ C, IsShade l t C ∧ callF TA 28 [r, RI t] m n = some (.tup [C.u, RI 0]) := by
  have S := stopsR hR
  have hl16 := S.len
  have hpos := S.pos
  obtain ⟨M1, hM1⟩ : ∃ M1, M1 = upd (upd m n (some ⟨[I t], true⟩)) (n + 1) (some ⟨[U8 0, U8 0, U8 0, U8 0], true⟩) := ⟨_, rfl⟩
  have hr1 : RSt M1 (n + 2) r l := hr.keep (by omega) (fun id hid => by rw [hM1, upd_ne _ _ (by omega), upd_ne _ _ (by omega)])
  have vC := v_CheckStops r l (frz M1) (n + 2) hr1.frz (by omega)
  rw [if_pos hR, hM1] at vC
  obtain ⟨s0, h0⟩ : ∃ s, l[0]? = some s := ⟨l[0], List.getElem?_eq_getElem hpos⟩
  obtain ⟨sL, hL⟩ : ∃ s, l[l.length - 1]? = some s := ⟨l[l.length - 1], List.getElem?_eq_getElem (by omega)⟩
  obtain ⟨id, off, cap, b, rfl, hid, r0, r0b, r0c, r0d⟩ := at_stop hr h0
  obtain ⟨id', off', cap', b', e, _, rL, rLb, rLc, rLd⟩ := at_stop hr hL
  injection e with e
  injection e with e1 e2 e3 e4
  subst e1
  subst e2
  have n0 := na_0 hid
  have n1 := na_0 (show id < n + 1 by omega)
  have n2 := na_0 (show id < n + 2 by omega)
  rw [Nat.zero_mul, Nat.add_zero] at r0c
  rw [Nat.zero_mul, Nat.zero_add] at r0d
  have hlen := hr.len
  have w1 : IntKind.i64.wrap ((l.length : Int) - 1) = ((l.length - 1 : Nat) : Int) := (wr_eq (by omega) (by omega)).trans (by omega)
  have c1 : ((0 : Int) < (l.length : Int)) = True := eq_true (by omega)
  have c2 : (((l.length - 1 : Nat) : Int) < (l.length : Int)) = True := eq_true (by omega)
  have c3 : (0 ≤ ((l.length - 1 : Nat) : Int)) = True := eq_true (by omega)
  by_cases hA : t ≤ s0.a
  · refine ⟨s0.co, Or.inl ⟨s0, h0, hA, rfl⟩, callF_of (Fn_ofK (fn := F28) rfl (by simp [F28]) ?_)⟩
    try simp only [r28_0, r28_1, r28_2, r28_3, r28_4, r28_5, r28_6, r28_7, r28_8, r28_9, r28_10, r28_11, c28, F28, vC, hlen, w1, c1, c2, c3, n0, n1, n2, r0b, r0c, r0d, rL, hA, Int.toNat_natCast, Int.toNat_zero, Nat.zero_mul, Nat.add_zero, Stp.co, go_sem, Int.reduceTMod, Int.reduceTDiv, Int.reduceDiv, Int.reduceMod, Int.reduceAdd, Int.reduceSub, Int.reduceMul, Int.reduceNeg, Int.reducePow, Int.reduceEq, ↓reduceIte, Nat.reduceEqDiff, Nat.reduceAdd, Nat.reduceMul, Nat.reduceLeDiff, Nat.reduceSub, Nat.reduceLT, Int.reduceToNat, Int.reduceLT, Int.reduceLE, reduceCtorEq]
    repeat' ((first | refine FK_split (fun h_ => ?_) (fun h_ => ?_) | refine GK_split (fun h_ => ?_) (fun h_ => ?_) | refine ite_both (fun h_ => ?_) (fun h_ => ?_)) <;> (try simp only [decide_eq_true_eq, decide_eq_false_iff_not, Bool.not_true, Bool.not_false, Bool.not_eq_true', Bool.not_eq_false', Bool.not_eq_eq_eq_not, Decidable.not_not] at h_) <;> (try simp only [r28_0, r28_1, r28_2, r28_3, r28_4, r28_5, r28_6, r28_7, r28_8, r28_9, r28_10, r28_11, c28, F28, vC, hlen, w1, c1, c2, c3, n0, n1, n2, r0b, r0c, r0d, rL, hA, Int.toNat_natCast, Int.toNat_zero, Nat.zero_mul, Nat.add_zero, Stp.co, h_, go_sem, Int.reduceTMod, Int.reduceTDiv, Int.reduceDiv, Int.reduceMod, Int.reduceAdd, Int.reduceSub, Int.reduceMul, Int.reduceNeg, Int.reducePow, Int.reduceEq, ↓reduceIte, Nat.reduceEqDiff, Nat.reduceAdd, Nat.reduceMul, Nat.reduceLeDiff, Nat.reduceSub, Nat.reduceLT, Int.reduceToNat, Int.reduceLT, Int.reduceLE, reduceCtorEq]))
  have hlt0 : ∀ u, l[0]? = some u → u.a < t := fun u hu => by rw [h0] at hu; cases hu; omega
  by_cases hB : sL.a ≤ t
  · refine ⟨sL.co, Or.inr (Or.inr ⟨sL, hL, fun j u hu => ?_, hlt0, rfl⟩), callF_of (Fn_ofK (fn := F28) rfl (by simp [F28]) ?_)⟩
    · have hj : j < l.length := (List.getElem?_eq_some_iff.1 hu).1
      have := S.le (l.length - 1 - j) j u sL hu (by rw [show j + (l.length - 1 - j) = l.length - 1 by omega]; exact hL)
      omega
    · skip
      try simp only [r28_0, r28_1, r28_2, r28_3, r28_4, r28_5, r28_6, r28_7, r28_8, r28_9, r28_10, r28_11, c28, F28, vC, hlen, w1, c1, c2, c3, n0, n1, n2, r0b, r0c, r0d, rL, hA, hB, Int.toNat_natCast, Int.toNat_zero, Nat.zero_mul, Nat.add_zero, Stp.co, go_sem, Int.reduceTMod, Int.reduceTDiv, Int.reduceDiv, Int.reduceMod, Int.reduceAdd, Int.reduceSub, Int.reduceMul, Int.reduceNeg, Int.reducePow, Int.reduceEq, ↓reduceIte, Nat.reduceEqDiff, Nat.reduceAdd, Nat.reduceMul, Nat.reduceLeDiff, Nat.reduceSub, Nat.reduceLT, Int.reduceToNat, Int.reduceLT, Int.reduceLE, reduceCtorEq]
      repeat' ((first | refine FK_split (fun h_ => ?_) (fun h_ => ?_) | refine GK_split (fun h_ => ?_) (fun h_ => ?_) | refine ite_both (fun h_ => ?_) (fun h_ => ?_)) <;> (try simp only [decide_eq_true_eq, decide_eq_false_iff_not, Bool.not_true, Bool.not_false, Bool.not_eq_true', Bool.not_eq_false', Bool.not_eq_eq_eq_not, Decidable.not_not] at h_) <;> (try simp only [r28_0, r28_1, r28_2, r28_3, r28_4, r28_5, r28_6, r28_7, r28_8, r28_9, r28_10, r28_11, c28, F28, vC, hlen, w1, c1, c2, c3, n0, n1, n2, r0b, r0c, r0d, rL, hA, hB, Int.toNat_natCast, Int.toNat_zero, Nat.zero_mul, Nat.add_zero, Stp.co, h_, go_sem, Int.reduceTMod, Int.reduceTDiv, Int.reduceDiv, Int.reduceMod, Int.reduceAdd, Int.reduceSub, Int.reduceMul, Int.reduceNeg, Int.reducePow, Int.reduceEq, ↓reduceIte, Nat.reduceEqDiff, Nat.reduceAdd, Nat.reduceMul, Nat.reduceLeDiff, Nat.reduceSub, Nat.reduceLT, Int.reduceToNat, Int.reduceLT, Int.reduceLE, reduceCtorEq]))
  -- between two
  obtain ⟨M2, hM2⟩ : ∃ M2, M2 = upd (upd M1 (n + 2) (some ⟨[I 0, U8 0, U8 0, U8 0, U8 0], true⟩)) (n + 2) (some ⟨sL.cs, true⟩) := ⟨_, rfl⟩
  have hr2 : RSt M2 (n + 3) (.one (.sl id off l.length cap 5)) l := hr1.keep (by omega) (fun id hid => by rw [hM2, upd_ne _ _ (by omega), upd_ne _ _ (by omega)])
  have hb2 : M2 n = some ⟨[I t], true⟩ := by rw [hM2, upd_ne _ _ (by omega), upd_ne _ _ (by omega), hM1, upd_ne _ _ (by omega), upd_same]
  obtain ⟨_, vI, k, rfl, hk⟩ := callF_ex (w_IndexS (t := t) (b := n) (o := false) hr2.frz (by omega) (by rw [frz_at, hb2]; rfl) (by omega))
  rw [hM2, hM1] at vI
  obtain ⟨i, s, rfl, hs, hts, hbef⟩ := hk.resolve_left (fun h => by have := h.2 _ _ hL; omega)
  have hi0 : 0 < i := by
    rcases Nat.eq_zero_or_pos i with h | h
    · subst h; rw [h0] at hs; cases hs; omega
    · exact h
  have hil : i < l.length := (List.getElem?_eq_some_iff.1 hs).1
  obtain ⟨p, hp⟩ : ∃ s, l[i - 1]? = some s := ⟨l[i - 1], List.getElem?_eq_getElem (by omega)⟩
  obtain ⟨id', off', cap', b', e, _, rp, _, _, _⟩ := at_stop hr hp
  injection e with e
  injection e with e1 e2 e3 e4
  subst e1
  subst e2
  obtain ⟨id', off', cap', b', e, _, rs, _, _, _⟩ := at_stop hr hs
  injection e with e
  injection e with e1 e2 e3 e4
  subst e1
  subst e2
  have hpt := hbef (i - 1) p (by omega) hp
  obtain ⟨p1, p2, p3⟩ := S.ok _ _ hp
  obtain ⟨s1, s2, s3⟩ := S.ok _ _ hs
  have g1 : IntKind.i64.wrap ((i : Int) - 1) = ((i - 1 : Nat) : Int) := (wr_eq (by omega) (by omega)).trans (by omega)
  have g2 : ((i : Int) < (l.length : Int)) = True := eq_true (by omega)
  have g3 : (0 ≤ (i : Int)) = True := eq_true (by omega)
  have g4 : (((i - 1 : Nat) : Int) < (l.length : Int)) = True := eq_true (by omega)
  have g5 : (0 ≤ ((i - 1 : Nat) : Int)) = True := eq_true (by omega)
  have f1 : IntKind.i64.wrap (t - p.a) = t - p.a := wr_eq (by omega) (by omega)
  have f2 : IntKind.i64.wrap ((t - p.a) * 65536) = (t - p.a) * 65536 := wr_eq (by omega) (by omega)
  have f3 : IntKind.i64.wrap (s.a - p.a) = s.a - p.a := wr_eq (by omega) (by omega)
  have f4 : (s.a - p.a = 0) = False := eq_false (by omega)
  have f5 : ((t - p.a) * 65536).tdiv (s.a - p.a) = (t - p.a) * 65536 / (s.a - p.a) := Int.tdiv_eq_ediv_of_nonneg (by omega)
  have q0 : 0 ≤ (t - p.a) * 65536 / (s.a - p.a) := Int.ediv_nonneg (by omega) (by omega)
  have q1 : (t - p.a) * 65536 / (s.a - p.a) ≤ 65536 := by
    have : (t - p.a) * 65536 / (s.a - p.a) < 65537 := Int.ediv_lt_of_lt_mul (by omega) (by omega)
    omega
  have f6 : IntKind.i64.wrap ((t - p.a) * 65536 / (s.a - p.a)) = (t - p.a) * 65536 / (s.a - p.a) := wr_eq (by omega) (by omega)
  have vM := v_Mix p.co s.co ((t - p.a) * 65536 / (s.a - p.a)) (hby _ (List.mem_of_getElem? hp)) (hby _ (List.mem_of_getElem? hs)) q0 q1 (fun _ => none) 0
  refine ⟨mixC p.co s.co ((t - p.a) * 65536 / (s.a - p.a)), Or.inr (Or.inl ⟨i - 1, p, s, hp, by rw [Nat.sub_add_cancel hi0]; exact hs, fun j u hj hu => hbef j u (by omega) hu, hlt0, hts, rfl⟩), callF_of (Fn_ofK (fn := F28) rfl (by simp [F28]) ?_)⟩
  generalize mixC p.co s.co ((t - p.a) * 65536 / (s.a - p.a)) = C at *
  generalize (t - p.a) * 65536 / (s.a - p.a) = T at *
  simp only [Stp.co] at vM
  have n3 := na_0 (show id < n + 3 by omega)
  have n4 := na_0 (show id < n + 4 by omega)
  try simp only [r28_0, r28_1, r28_2, r28_3, r28_4, r28_5, r28_6, r28_7, r28_8, r28_9, r28_10, r28_11, c28, F28, XK_ureg, vC, vI, vM, hlen, w1, c1, c2, c3, n0, n1, n2, n3, n4, r0b, r0c, r0d, rL, hA, hB, g1, g2, g3, g4, g5, f1, f2, f3, f4, f5, f6, rp, rs, Int.toNat_natCast, Int.toNat_zero, Nat.zero_mul, Nat.add_zero, go_sem, Int.reduceTMod, Int.reduceTDiv, Int.reduceDiv, Int.reduceMod, Int.reduceAdd, Int.reduceSub, Int.reduceMul, Int.reduceNeg, Int.reducePow, Int.reduceEq, ↓reduceIte, Nat.reduceEqDiff, Nat.reduceAdd, Nat.reduceMul, Nat.reduceLeDiff, Nat.reduceSub, Nat.reduceLT, Int.reduceToNat, Int.reduceLT, Int.reduceLE, reduceCtorEq]
  repeat' ((first | refine FK_split (fun h_ => ?_) (fun h_ => ?_) | refine GK_split (fun h_ => ?_) (fun h_ => ?_) | refine ite_both (fun h_ => ?_) (fun h_ => ?_)) <;> (try simp only [decide_eq_true_eq, decide_eq_false_iff_not, Bool.not_true, Bool.not_false, Bool.not_eq_true', Bool.not_eq_false', Bool.not_eq_eq_eq_not, Decidable.not_not] at h_) <;> (try simp only [r28_0, r28_1, r28_2, r28_3, r28_4, r28_5, r28_6, r28_7, r28_8, r28_9, r28_10, r28_11, c28, F28, XK_ureg, vC, vI, vM, hlen, w1, c1, c2, c3, n0, n1, n2, n3, n4, r0b, r0c, r0d, rL, hA, hB, g1, g2, g3, g4, g5, f1, f2, f3, f4, f5, f6, rp, rs, Int.toNat_natCast, Int.toNat_zero, Nat.zero_mul, Nat.add_zero, h_, go_sem, Int.reduceTMod, Int.reduceTDiv, Int.reduceDiv, Int.reduceMod, Int.reduceAdd, Int.reduceSub, Int.reduceMul, Int.reduceNeg, Int.reducePow, Int.reduceEq, ↓reduceIte, Nat.reduceEqDiff, Nat.reduceAdd, Nat.reduceMul, Nat.reduceLeDiff, Nat.reduceSub, Nat.reduceLT, Int.reduceToNat, Int.reduceLT, Int.reduceLE, reduceCtorEq]))
end Go.Proofs.Ytffhhgcgnillaaa.Sy
