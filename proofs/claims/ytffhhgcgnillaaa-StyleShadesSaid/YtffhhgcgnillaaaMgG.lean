import Derived.Test.YtffhhgcgnillaaaMgF
import Derived.ProofKit
import Derived.OpenShut
import Derived.Deep.Slices
/- Shades walked to their colours. Conditions: those that each theorem names. -/
namespace Go.Proofs.Ytffhhgcgnillaaa.Sy
open Go Go.Proofs
set_option linter.unusedSimpArgs false
set_option linter.unusedVariables false
set_option maxRecDepth 20000
attribute [local go_sem] XK_seq XK_block XK_skip XK_exit XK_ret XK_cond XK_reg XK_dreg XK_ureg KN_seq KN_blk KN_lp KN_chk KN_chku KN_top KN_fin KX_seq KX_lp KX_blk KX_chk KX_top KR_seq KR_blk KR_lp KR_chk KR_top KR_fin FK_true FK_false RK_nil RK_mv RK_pick RK_alloc RK_box RK_build RK_bslice RK_load1 RK_loadA RK_store RK_nilchk RK_bin RK_beq RK_eqv RK_eqnil RK_un RK_conv RK_mkfn RK_mkslice RK_slS RK_slA RK_fadr RK_fld RK_iadrA RK_iadrS RK_idxA RK_istr RK_ext RK_lenC RK_cap RK_app RK_appz RK_pre RK_cpy RK_mn RK_mx RK_len RK_carry RK_clr carryR um0 um1 ThenK_some RK_guard GK_tt GK_ff GK_tf GK_ft GK_none QK_some RK_callQ RK_callZ RK_callT TK_some VK_clo RK_callV
  evalOp evO evOs upd_at unfrz_at putE_some putE_none boolOf_b boolOf_tup Option.map_some evRes pack_one pack_two pack_three pack_none List.getD_cons_zero List.getD_cons_succ getD_nil
  Option.some.injEq exists_eq_left' Reg.cs? fillC setL List.set_cons_zero List.set_cons_succ List.length_cons List.length_nil rd_upd rd_updn rdB wr List.drop_zero List.drop_succ_cons List.take_succ_cons List.take_zero List.getElem?_cons_zero List.getElem?_cons_succ
  ix Int.toNat_zero lenO_sl lenO_nil nadd na_eq na_eq' na_lt na_ee na_ll na_ne na_ne' na_tt
attribute [local go_sem] Reg.flat_one Reg.flat_agg Reg.flat_tup flats_nil flats_cons Cell.flat_sc Cell.flat_ptr List.all_cons List.all_nil disOk safeOk safeR decide_eq_true_eq decide_eq_false_iff_not
  List.map_cons List.map_nil List.cons_append List.nil_append List.append_nil evalOp.capsOf Bool.false_bne Bool.bne_false Bool.true_bne Bool.bne_true bne_self_eq_false beq_self_eq_true Bool.not_not Bool.false_and Bool.and_false Bool.true_or Bool.or_true beq_iff_eq eqCells
  Bool.true_beq Bool.false_beq Bool.not_eq_true' Bool.not_eq_eq_eq_not Bool.not_eq_false' and_false false_and frz_at idOf noId Option.isSome_some Bool.and_eq_true
attribute [local go_sem] wr_eq bV_add bV_sub bV_mul bV_eql bV_neq bV_lss bV_leq bV_gtr bV_geq bV_quo bV_rem bV_shr bV_shl uV_not uV_neg wrapU bits_and bits_or bits_xor IntKind.bits Nat.min_eq_left Nat.min_eq_right Nat.min_self
attribute [local go_sem] bne_iff_ne Int.cast_ofNat_Int Nat.zero_add Nat.add_zero and_self and_true true_and ne_eq not_false_eq_true not_true_eq_false decide_true decide_false Bool.false_eq_true Bool.not_true Bool.not_false Bool.true_and Bool.and_true Bool.or_false Bool.false_or Bool.and_self

theorem rd_sub {m : Mem} {id off k a q : Nat} {cs : List Cell} (h : rd m id off k = some cs) (hq : a + q ≤ k) : rd m id (off + a) q = some ((cs.drop a).take q) := by
  unfold rd at h ⊢
  split at h
  case h_2 => cases h
  rename_i b hb
  split at h
  case isFalse => cases h
  rename_i hle
  cases h
  rw [if_pos (by omega), List.drop_take, List.take_take, List.drop_drop]
  congr 2
  omega
theorem at_stop {m : Mem} {n : Nat} {r : Reg} {l : List Stp} {i : Nat} {s : Stp} (h : RSt m n r l) (hs : l[i]? = some s) :
    ∃ id off cap b, r = .one (.sl id off l.length cap 5) ∧ id < n ∧ rd m id (off + i * 5) 5 = some s.cs ∧ m id = some b ∧ b.cells[off + i * 5]? = some (I s.a) ∧ rd m id (off + (i * 5 + 1)) 4 = some [U8 s.c0, U8 s.c1, U8 s.c2, U8 s.c3] := by
  obtain ⟨id, off, cap, h1, h2, h3⟩ := h.at cs5 hs
  obtain ⟨b, h4, h5⟩ := rd_cell h3 (a := 0) (c := I s.a) rfl
  have h6 := rd_sub (a := 1) (q := 4) h3 (by omega)
  rw [Nat.add_assoc] at h6
  exact ⟨id, off, cap, b, h1, h2, h3, h4, by rwa [Nat.add_zero] at h5, h6⟩
set_option maxHeartbeats 2000000 in
theorem v_Shade {r : Reg} {l : List Stp} {t : Int} {m : Mem} {n : Nat} (hr : RSt m n r l) (hR : stopsB l = true) (hby : ∀ s ∈ l, s.by) : ∃ C, IsShade l t C ∧ callF TA 28 [r, RI t] m n = some (.tup [C.u, RI 0]) := by
  have S := stopsR hR
  have hl16 := S.len
  have hpos := S.pos
  obtain ⟨M1, hM1⟩ : ∃ M1, M1 = upd (upd m n (some ⟨[I t], true⟩)) (n + 1) (some ⟨[U8 0, U8 0, U8 0, U8 0], true⟩) := ⟨_, rfl⟩
  have hr1 : RSt M1 (n + 2) r l := hr.keep (by omega) (fun id hid => by rw [hM1, upd_ne _ _ (by omega), upd_ne _ _ (by omega)])
  have vC := v_CheckStops r l (frz M1) (n + 2) hr1.frz (by omega)
  rw [if_pos hR, hM1] at vC
  obtain ⟨s0, h0⟩ : ∃ s, l[0]? = some s := ⟨l[0], List.getElem?_eq_getElem hpos⟩
  obtain ⟨sL, hL⟩ : ∃ s, l[l.length - 1]? = some s := ⟨l[l.length - 1], List.getElem?_eq_getElem (by omega)⟩
  obtain ⟨id, off, cap, b, rfl, hid, r0, r0b, r0c, r0d⟩ := at_stop hr h0
  obtain ⟨id', off', cap', b', e, _, rL, rLb, rLc, rLd⟩ := at_stop hr hL
  injection e with e
  injection e with e1 e2 e3 e4
  subst e1
  subst e2
  have n0 := na_0 hid
  have n1 := na_0 (show id < n + 1 by omega)
  have n2 := na_0 (show id < n + 2 by omega)
  rw [Nat.zero_mul, Nat.add_zero] at r0c
  rw [Nat.zero_mul, Nat.zero_add] at r0d
  have hlen := hr.len
  have w1 : IntKind.i64.wrap ((l.length : Int) - 1) = ((l.length - 1 : Nat) : Int) := (wr_eq (by omega) (by omega)).trans (by omega)
  have c1 : ((0 : Int) < (l.length : Int)) = True := eq_true (by omega)
  have c2 : (((l.length - 1 : Nat) : Int) < (l.length : Int)) = True := eq_true (by omega)
  have c3 : (0 ≤ ((l.length - 1 : Nat) : Int)) = True := eq_true (by omega)
  by_cases hA : t ≤ s0.a
  · refine ⟨s0.co, Or.inl ⟨s0, h0, hA, rfl⟩, callF_of (Fn_ofK (fn := F28) rfl (by simp [F28]) ?_)⟩
    try simp only [r28_0, r28_1, r28_2, r28_3, r28_4, r28_5, r28_6, r28_7, r28_8, r28_9, r28_10, r28_11, c28, F28, vC, hlen, w1, c1, c2, c3, n0, n1, n2, r0b, r0c, r0d, rL, hA, Int.toNat_natCast, Int.toNat_zero, Nat.zero_mul, Nat.add_zero, Stp.co, go_sem, Int.reduceTMod, Int.reduceTDiv, Int.reduceDiv, Int.reduceMod, Int.reduceAdd, Int.reduceSub, Int.reduceMul, Int.reduceNeg, Int.reducePow, Int.reduceEq, ↓reduceIte, Nat.reduceEqDiff, Nat.reduceAdd, Nat.reduceMul, Nat.reduceLeDiff, Nat.reduceSub, Nat.reduceLT, Int.reduceToNat, Int.reduceLT, Int.reduceLE, reduceCtorEq]
    repeat' ((first | refine FK_split (fun h_ => ?_) (fun h_ => ?_) | refine GK_split (fun h_ => ?_) (fun h_ => ?_) | refine ite_both (fun h_ => ?_) (fun h_ => ?_)) <;> (try simp only [decide_eq_true_eq, decide_eq_false_iff_not, Bool.not_true, Bool.not_false, Bool.not_eq_true', Bool.not_eq_false', Bool.not_eq_eq_eq_not, Decidable.not_not] at h_) <;> (try simp only [r28_0, r28_1, r28_2, r28_3, r28_4, r28_5, r28_6, r28_7, r28_8, r28_9, r28_10, r28_11, c28, F28, vC, hlen, w1, c1, c2, c3, n0, n1, n2, r0b, r0c, r0d, rL, hA, Int.toNat_natCast, Int.toNat_zero, Nat.zero_mul, Nat.add_zero, Stp.co, h_, go_sem, Int.reduceTMod, Int.reduceTDiv, Int.reduceDiv, Int.reduceMod, Int.reduceAdd, Int.reduceSub, Int.reduceMul, Int.reduceNeg, Int.reducePow, Int.reduceEq, ↓reduceIte, Nat.reduceEqDiff, Nat.reduceAdd, Nat.reduceMul, Nat.reduceLeDiff, Nat.reduceSub, Nat.reduceLT, Int.reduceToNat, Int.reduceLT, Int.reduceLE, reduceCtorEq]))
  have hlt0 : ∀ u, l[0]? = some u → u.a < t := fun u hu => by rw [h0] at hu; cases hu; omega
  by_cases hB : sL.a ≤ t
  · refine ⟨sL.co, Or.inr (Or.inr ⟨sL, hL, fun j u hu => ?_, hlt0, rfl⟩), callF_of (Fn_ofK (fn := F28) rfl (by simp [F28]) ?_)⟩
    · have hj : j < l.length := (List.getElem?_eq_some_iff.1 hu).1
      have := S.le (l.length - 1 - j) j u sL hu (by rw [show j + (l.length - 1 - j) = l.length - 1 by omega]; exact hL)
      omega
    · skip
      try simp only [r28_0, r28_1, r28_2, r28_3, r28_4, r28_5, r28_6, r28_7, r28_8, r28_9, r28_10, r28_11, c28, F28, vC, hlen, w1, c1, c2, c3, n0, n1, n2, r0b, r0c, r0d, rL, hA, hB, Int.toNat_natCast, Int.toNat_zero, Nat.zero_mul, Nat.add_zero, Stp.co, go_sem, Int.reduceTMod, Int.reduceTDiv, Int.reduceDiv, Int.reduceMod, Int.reduceAdd, Int.reduceSub, Int.reduceMul, Int.reduceNeg, Int.reducePow, Int.reduceEq, ↓reduceIte, Nat.reduceEqDiff, Nat.reduceAdd, Nat.reduceMul, Nat.reduceLeDiff, Nat.reduceSub, Nat.reduceLT, Int.reduceToNat, Int.reduceLT, Int.reduceLE, reduceCtorEq]
      repeat' ((first | refine FK_split (fun h_ => ?_) (fun h_ => ?_) | refine GK_split (fun h_ => ?_) (fun h_ => ?_) | refine ite_both (fun h_ => ?_) (fun h_ => ?_)) <;> (try simp only [decide_eq_true_eq, decide_eq_false_iff_not, Bool.not_true, Bool.not_false, Bool.not_eq_true', Bool.not_eq_false', Bool.not_eq_eq_eq_not, Decidable.not_not] at h_) <;> (try simp only [r28_0, r28_1, r28_2, r28_3, r28_4, r28_5, r28_6, r28_7, r28_8, r28_9, r28_10, r28_11, c28, F28, vC, hlen, w1, c1, c2, c3, n0, n1, n2, r0b, r0c, r0d, rL, hA, hB, Int.toNat_natCast, Int.toNat_zero, Nat.zero_mul, Nat.add_zero, Stp.co, h_, go_sem, Int.reduceTMod, Int.reduceTDiv, Int.reduceDiv, Int.reduceMod, Int.reduceAdd, Int.reduceSub, Int.reduceMul, Int.reduceNeg, Int.reducePow, Int.reduceEq, ↓reduceIte, Nat.reduceEqDiff, Nat.reduceAdd, Nat.reduceMul, Nat.reduceLeDiff, Nat.reduceSub, Nat.reduceLT, Int.reduceToNat, Int.reduceLT, Int.reduceLE, reduceCtorEq]))
  -- between two
  obtain ⟨M2, hM2⟩ : ∃ M2, M2 = upd (upd M1 (n + 2) (some ⟨[I 0, U8 0, U8 0, U8 0, U8 0], true⟩)) (n + 2) (some ⟨sL.cs, true⟩) := ⟨_, rfl⟩
  have hr2 : RSt M2 (n + 3) (.one (.sl id off l.length cap 5)) l := hr1.keep (by omega) (fun id hid => by rw [hM2, upd_ne _ _ (by omega), upd_ne _ _ (by omega)])
  have hb2 : M2 n = some ⟨[I t], true⟩ := by rw [hM2, upd_ne _ _ (by omega), upd_ne _ _ (by omega), hM1, upd_ne _ _ (by omega), upd_same]
  obtain ⟨_, vI, k, rfl, hk⟩ := callF_ex (w_IndexS (t := t) (b := n) (o := false) hr2.frz (by omega) (by rw [frz_at, hb2]; rfl) (by omega))
  rw [hM2, hM1] at vI
  obtain ⟨i, s, rfl, hs, hts, hbef⟩ := hk.resolve_left (fun h => by have := h.2 _ _ hL; omega)
  have hi0 : 0 < i := by
    rcases Nat.eq_zero_or_pos i with h | h
    · subst h; rw [h0] at hs; cases hs; omega
    · exact h
  have hil : i < l.length := (List.getElem?_eq_some_iff.1 hs).1
  obtain ⟨p, hp⟩ : ∃ s, l[i - 1]? = some s := ⟨l[i - 1], List.getElem?_eq_getElem (by omega)⟩
  obtain ⟨id', off', cap', b', e, _, rp, _, _, _⟩ := at_stop hr hp
  injection e with e
  injection e with e1 e2 e3 e4
  subst e1
  subst e2
  obtain ⟨id', off', cap', b', e, _, rs, _, _, _⟩ := at_stop hr hs
  injection e with e
  injection e with e1 e2 e3 e4
  subst e1
  subst e2
  have hpt := hbef (i - 1) p (by omega) hp
  obtain ⟨p1, p2, p3⟩ := S.ok _ _ hp
  obtain ⟨s1, s2, s3⟩ := S.ok _ _ hs
  have g1 : IntKind.i64.wrap ((i : Int) - 1) = ((i - 1 : Nat) : Int) := (wr_eq (by omega) (by omega)).trans (by omega)
  have g2 : ((i : Int) < (l.length : Int)) = True := eq_true (by omega)
  have g3 : (0 ≤ (i : Int)) = True := eq_true (by omega)
  have g4 : (((i - 1 : Nat) : Int) < (l.length : Int)) = True := eq_true (by omega)
  have g5 : (0 ≤ ((i - 1 : Nat) : Int)) = True := eq_true (by omega)
  have f1 : IntKind.i64.wrap (t - p.a) = t - p.a := wr_eq (by omega) (by omega)
  have f2 : IntKind.i64.wrap ((t - p.a) * 65536) = (t - p.a) * 65536 := wr_eq (by omega) (by omega)
  have f3 : IntKind.i64.wrap (s.a - p.a) = s.a - p.a := wr_eq (by omega) (by omega)
  have f4 : (s.a - p.a = 0) = False := eq_false (by omega)
  have f5 : ((t - p.a) * 65536).tdiv (s.a - p.a) = (t - p.a) * 65536 / (s.a - p.a) := Int.tdiv_eq_ediv_of_nonneg (by omega)
  have q0 : 0 ≤ (t - p.a) * 65536 / (s.a - p.a) := Int.ediv_nonneg (by omega) (by omega)
  have q1 : (t - p.a) * 65536 / (s.a - p.a) ≤ 65536 := by
    have : (t - p.a) * 65536 / (s.a - p.a) < 65537 := Int.ediv_lt_of_lt_mul (by omega) (by omega)
    omega
  have f6 : IntKind.i64.wrap ((t - p.a) * 65536 / (s.a - p.a)) = (t - p.a) * 65536 / (s.a - p.a) := wr_eq (by omega) (by omega)
  have vM := v_Mix p.co s.co ((t - p.a) * 65536 / (s.a - p.a)) (hby _ (List.mem_of_getElem? hp)) (hby _ (List.mem_of_getElem? hs)) q0 q1 (fun _ => none) 0
  refine ⟨mixC p.co s.co ((t - p.a) * 65536 / (s.a - p.a)), Or.inr (Or.inl ⟨i - 1, p, s, hp, by rw [Nat.sub_add_cancel hi0]; exact hs, fun j u hj hu => hbef j u (by omega) hu, hlt0, hts, rfl⟩), callF_of (Fn_ofK (fn := F28) rfl (by simp [F28]) ?_)⟩
  generalize mixC p.co s.co ((t - p.a) * 65536 / (s.a - p.a)) = C at *
  generalize (t - p.a) * 65536 / (s.a - p.a) = T at *
  simp only [Stp.co] at vM
  have n3 := na_0 (show id < n + 3 by omega)
  have n4 := na_0 (show id < n + 4 by omega)
  try simp only [r28_0, r28_1, r28_2, r28_3, r28_4, r28_5, r28_6, r28_7, r28_8, r28_9, r28_10, r28_11, c28, F28, XK_ureg, vC, vI, vM, hlen, w1, c1, c2, c3, n0, n1, n2, n3, n4, r0b, r0c, r0d, rL, hA, hB, g1, g2, g3, g4, g5, f1, f2, f3, f4, f5, f6, rp, rs, Int.toNat_natCast, Int.toNat_zero, Nat.zero_mul, Nat.add_zero, go_sem, Int.reduceTMod, Int.reduceTDiv, Int.reduceDiv, Int.reduceMod, Int.reduceAdd, Int.reduceSub, Int.reduceMul, Int.reduceNeg, Int.reducePow, Int.reduceEq, ↓reduceIte, Nat.reduceEqDiff, Nat.reduceAdd, Nat.reduceMul, Nat.reduceLeDiff, Nat.reduceSub, Nat.reduceLT, Int.reduceToNat, Int.reduceLT, Int.reduceLE, reduceCtorEq]
  repeat' ((first | refine FK_split (fun h_ => ?_) (fun h_ => ?_) | refine GK_split (fun h_ => ?_) (fun h_ => ?_) | refine ite_both (fun h_ => ?_) (fun h_ => ?_)) <;> (try simp only [decide_eq_true_eq, decide_eq_false_iff_not, Bool.not_true, Bool.not_false, Bool.not_eq_true', Bool.not_eq_false', Bool.not_eq_eq_eq_not, Decidable.not_not] at h_) <;> (try simp only [r28_0, r28_1, r28_2, r28_3, r28_4, r28_5, r28_6, r28_7, r28_8, r28_9, r28_10, r28_11, c28, F28, XK_ureg, vC, vI, vM, hlen, w1, c1, c2, c3, n0, n1, n2, n3, n4, r0b, r0c, r0d, rL, hA, hB, g1, g2, g3, g4, g5, f1, f2, f3, f4, f5, f6, rp, rs, Int.toNat_natCast, Int.toNat_zero, Nat.zero_mul, Nat.add_zero, h_, go_sem, Int.reduceTMod, Int.reduceTDiv, Int.reduceDiv, Int.reduceMod, Int.reduceAdd, Int.reduceSub, Int.reduceMul, Int.reduceNeg, Int.reducePow, Int.reduceEq, ↓reduceIte, Nat.reduceEqDiff, Nat.reduceAdd, Nat.reduceMul, Nat.reduceLeDiff, Nat.reduceSub, Nat.reduceLT, Int.reduceToNat, Int.reduceLT, Int.reduceLE, reduceCtorEq]))

/- The reference's shades walked; a paint's colour. Conditions: those that each theorem names. -/
open Go Go.Proofs
set_option linter.unusedSimpArgs false
set_option linter.unusedVariables false


/- Styles: compared, checked. Conditions: those that each theorem names. -/
open Go Go.Proofs
set_option linter.unusedSimpArgs false
set_option linter.unusedVariables false

structure Sty where
  fill : Pai
  pen : Pai
  rule : Int
  half : Int
  cap : Int
  dl : Cell
  ph : Int
  op : Int
  mode : Int
abbrev Sty.cs (s : Sty) : List Cell := [I s.fill.k, U8 s.fill.c0, U8 s.fill.c1, U8 s.fill.c2, U8 s.fill.c3, I s.fill.fx, I s.fill.fy, I s.fill.tx, I s.fill.ty, s.fill.st,
  I s.pen.k, U8 s.pen.c0, U8 s.pen.c1, U8 s.pen.c2, U8 s.pen.c3, I s.pen.fx, I s.pen.fy, I s.pen.tx, I s.pen.ty, s.pen.st, I s.rule, I s.half, I s.cap, s.dl, I s.ph, I s.op, I s.mode]
structure SRel (m : Mem) (n : Nat) (s : Sty) (lf lp : List Stp) (ld : List Int) : Prop where
  f : RSt m n (.one s.fill.st) lf
  p : RSt m n (.one s.pen.st) lp
  d : RIn m n (.one s.dl) ld
theorem SRel.keep {m m' : Mem} {n n' : Nat} {s : Sty} {lf lp : List Stp} {ld : List Int} (h : SRel m n s lf lp ld) (hn : n ≤ n') (hm : ∀ id, id < n → m' id = m id) : SRel m' n' s lf lp ld := ⟨h.f.keep hn hm, h.p.keep hn hm, h.d.keep hn hm⟩
theorem SRel.frz {m : Mem} {n : Nat} {s : Sty} {lf lp : List Stp} {ld : List Int} (h : SRel m n s lf lp ld) : SRel (frz m) n s lf lp ld := ⟨RL.frz h.f, RL.frz h.p, RL.frz h.d⟩
/-- The error's number of a style. -/
def rngP (s : Sty) : Prop := (1 ≤ s.rule ∧ s.rule ≤ 2) ∧ (0 ≤ s.half ∧ s.half ≤ 32768) ∧ (0 ≤ s.cap ∧ s.cap ≤ 2) ∧ (0 ≤ s.op ∧ s.op ≤ 255) ∧ 0 ≤ s.mode ∧ s.mode ≤ 4
instance (s : Sty) : Decidable (rngP s) := by unfold rngP; infer_instance

/- The law StyleChecks walked. Conditions: those that each theorem names. -/
open Go Go.Proofs
set_option linter.unusedSimpArgs false
set_option linter.unusedVariables false

theorem v_awake16 : callF TA 9 [] (fun _ => none) 0 = some (RB true) := callF_closed (k := 80) (by kernel_rfl)

/- A paint's colour at a point, walked. Conditions: those that each theorem names. -/
open Go Go.Proofs
set_option linter.unusedSimpArgs false
set_option linter.unusedVariables false

theorem right_kinds {p : Pai} {l : List Stp} (h : rightV p l = 0) : (p.k = 0 ∨ p.k = 1 ∨ p.k = 2 ∨ p.k = 3) ∧ (2 ≤ p.k → Near p.fx p.fy p.tx p.ty ∧ stopsB l = true) ∧ (p.k ≤ 1 → p.cr = true) := by
  unfold rightV at h
  by_cases h1 : p.k < 0 ∨ 3 < p.k
  · rw [if_pos h1] at h; cases h
  rw [if_neg h1] at h
  by_cases h2 : p.k = 0
  · rw [if_pos h2] at h
    split at h
    · rename_i h3
      simp only [Bool.and_eq_true] at h3
      exact ⟨Or.inl h2, fun h => by omega, fun _ => cz_cr h3.2⟩
    · cases h
  rw [if_neg h2] at h
  by_cases h4 : p.k = 1
  · rw [if_pos h4] at h
    split at h
    · rename_i h3
      simp only [Bool.and_eq_true] at h3
      exact ⟨Or.inr (Or.inl h4), fun h => by omega, fun _ => h3.2⟩
    · cases h
  rw [if_neg h4] at h
  split at h
  · rename_i h3
    simp only [Bool.and_eq_true, Bool.not_eq_true', Pai.ft, Bool.and_eq_false_iff, beq_eq_false_iff_ne, ne_eq] at h3
    refine ⟨by omega, fun _ => ⟨⟨h3.2.1, h3.2.2.1, fun e => ?_⟩, h3.2.2.2.2⟩, fun h => by omega⟩
    rcases h3.2.2.2.1 with h | h
    · exact h e.1
    · exact h e.2
  · cases h
def Pai.co (p : Pai) : Co := ⟨p.c0, p.c1, p.c2, p.c3⟩
/-- The colour of a paint at a point. -/
def IsCol (p : Pai) (l : List Stp) (x y : Int) (C : Co) : Prop :=
  if p.k = 2 then IsShade l (alongV p.fx p.fy p.tx p.ty (clipV x) (clipV y)) C else if p.k = 3 then IsShade l (roundV p.fx p.fy p.tx p.ty (clipV x) (clipV y)) C else C = p.co
theorem IsCol.one {p : Pai} {l : List Stp} {x y : Int} {C D : Co} (h1 : IsCol p l x y C) (h2 : IsCol p l x y D) : C = D := by
  unfold IsCol at h1 h2
  split at h1
  · rename_i e
    rw [if_pos e] at h2
    exact h1.one h2
  · rename_i e
    rw [if_neg e] at h2
    split at h1
    · rename_i e2
      rw [if_pos e2] at h2
      exact h1.one h2
    · rename_i e2
      rw [if_neg e2] at h2
      rw [h1, h2]
set_option maxHeartbeats 2000000 in
theorem v_At {p : Pai} {l : List Stp} {x y : Int} {m : Mem} {n : Nat} (hr : RSt m n (.one p.st) l) (hR : rightV p l = 0) (hby : ∀ s ∈ l, s.by) : ∃ C, IsCol p l x y C ∧ callF TA 10 [.agg p.cs, .agg [I x, I y]] m n = some C.u := by
  have hF : Fn TA 10 [.agg p.cs, .agg [I x, I y]] m n (fun r' _ _ => ∃ C : Co, r' = C.u ∧ IsCol p l x y C) := by
    refine Fn_ofK (fn := F10) rfl (by simp [F10]) ?_
    obtain ⟨hk, h23, _⟩ := right_kinds hR
    have vx := v_clip x
    have vy := v_clip y
    have hcf := clip_far x y
    have hrM : ∀ M : Mem, (∀ j, j < n → M j = m j) → RSt M (n + 4) (.one p.st) l := fun M h => hr.keep (by omega) h
    by_cases k2 : p.k = 2
    · obtain ⟨hn, hs⟩ := h23 (by omega)
      have vA := v_along p (clipV x) (clipV y) hn hcf
      have body : ∀ (e : Nat → Reg) (M : Mem), e 2 = .one (.ptr n 0) → e 3 = .one (.ptr (n + 1) 0) → e 4 = .one (.ptr (n + 2) 0) → e 5 = .one (.ptr (n + 3) 0) → M n = some ⟨p.cs, true⟩ → M (n + 1) = some ⟨[I (clipV x), I (clipV y)], true⟩ → M (n + 2) = some ⟨[U8 0, U8 0, U8 0, U8 0], true⟩ → M (n + 3) = some ⟨[U8 p.c0, U8 p.c1, U8 p.c2, U8 p.c3], true⟩ → (∀ j, j < n → M j = m j) →
          RK TA r10_5 e M (n + 4) (Kt.blk 0 (Kt.seq (.seq (.reg r10_8) .ret) (Kt.fin [.cellA 4 4] (fun r' _ _ => ∃ C : Co, r' = C.u ∧ IsCol p l x y C)))) := by
        intro e M e2 e3 e4 e5 m0 m1 m2 m3 hold
        obtain ⟨C, hC, vS⟩ := v_Shade (t := alongV p.fx p.fy p.tx p.ty (clipV x) (clipV y)) (hrM M hold).frz hs hby
        try simp only [r10_5, r10_8, e2, e3, e4, e5, m0, m1, m2, m3, rd_of m0, rd_of m1, rd_of m2, rd_of m3, vA, vS, go_sem, Int.reduceTMod, Int.reduceTDiv, Int.reduceDiv, Int.reduceMod, Int.reduceAdd, Int.reduceSub, Int.reduceMul, Int.reduceNeg, Int.reducePow, Int.reduceEq, ↓reduceIte, Nat.reduceEqDiff, Nat.reduceAdd, Nat.reduceMul, Nat.reduceLeDiff, Nat.reduceSub, Nat.reduceLT, Int.reduceToNat, Int.reduceLT, Int.reduceLE, reduceCtorEq]
        repeat' ((first | refine FK_split (fun h_ => ?_) (fun h_ => ?_) | refine GK_split (fun h_ => ?_) (fun h_ => ?_) | refine ite_both (fun h_ => ?_) (fun h_ => ?_)) <;> (try simp only [decide_eq_true_eq, decide_eq_false_iff_not, Bool.not_true, Bool.not_false, Bool.not_eq_true', Bool.not_eq_false', Bool.not_eq_eq_eq_not, Decidable.not_not] at h_) <;> (try simp only [r10_5, r10_8, e2, e3, e4, e5, m0, m1, m2, m3, rd_of m0, rd_of m1, rd_of m2, rd_of m3, vA, vS, h_, go_sem, Int.reduceTMod, Int.reduceTDiv, Int.reduceDiv, Int.reduceMod, Int.reduceAdd, Int.reduceSub, Int.reduceMul, Int.reduceNeg, Int.reducePow, Int.reduceEq, ↓reduceIte, Nat.reduceEqDiff, Nat.reduceAdd, Nat.reduceMul, Nat.reduceLeDiff, Nat.reduceSub, Nat.reduceLT, Int.reduceToNat, Int.reduceLT, Int.reduceLE, reduceCtorEq]))
        exact ⟨C, rfl, by unfold IsCol; rw [if_pos k2]; exact hC⟩
      try simp only [F10, c10, r10_0, r10_1, r10_2, r10_3, r10_4, vx, vy, k2, go_sem, Int.reduceTMod, Int.reduceTDiv, Int.reduceDiv, Int.reduceMod, Int.reduceAdd, Int.reduceSub, Int.reduceMul, Int.reduceNeg, Int.reducePow, Int.reduceEq, ↓reduceIte, Nat.reduceEqDiff, Nat.reduceAdd, Nat.reduceMul, Nat.reduceLeDiff, Nat.reduceSub, Nat.reduceLT, Int.reduceToNat, Int.reduceLT, Int.reduceLE, reduceCtorEq]
      repeat' ((first | refine FK_split (fun h_ => ?_) (fun h_ => ?_) | refine GK_split (fun h_ => ?_) (fun h_ => ?_) | refine ite_both (fun h_ => ?_) (fun h_ => ?_)) <;> (try simp only [decide_eq_true_eq, decide_eq_false_iff_not, Bool.not_true, Bool.not_false, Bool.not_eq_true', Bool.not_eq_false', Bool.not_eq_eq_eq_not, Decidable.not_not] at h_) <;> (try simp only [F10, c10, r10_0, r10_1, r10_2, r10_3, r10_4, vx, vy, k2, h_, go_sem, Int.reduceTMod, Int.reduceTDiv, Int.reduceDiv, Int.reduceMod, Int.reduceAdd, Int.reduceSub, Int.reduceMul, Int.reduceNeg, Int.reducePow, Int.reduceEq, ↓reduceIte, Nat.reduceEqDiff, Nat.reduceAdd, Nat.reduceMul, Nat.reduceLeDiff, Nat.reduceSub, Nat.reduceLT, Int.reduceToNat, Int.reduceLT, Int.reduceLE, reduceCtorEq]))
      refine body _ _ ?_ ?_ ?_ ?_ ?_ ?_ ?_ ?_ ?_
      · simp only [go_sem, Int.reduceTMod, Int.reduceTDiv, Int.reduceDiv, Int.reduceMod, Int.reduceAdd, Int.reduceSub, Int.reduceMul, Int.reduceNeg, Int.reducePow, Int.reduceEq, ↓reduceIte, Nat.reduceEqDiff, Nat.reduceAdd, Nat.reduceMul, Nat.reduceLeDiff, Nat.reduceSub, Nat.reduceLT, Int.reduceToNat, Int.reduceLT, Int.reduceLE, reduceCtorEq]
      · simp only [go_sem, Int.reduceTMod, Int.reduceTDiv, Int.reduceDiv, Int.reduceMod, Int.reduceAdd, Int.reduceSub, Int.reduceMul, Int.reduceNeg, Int.reducePow, Int.reduceEq, ↓reduceIte, Nat.reduceEqDiff, Nat.reduceAdd, Nat.reduceMul, Nat.reduceLeDiff, Nat.reduceSub, Nat.reduceLT, Int.reduceToNat, Int.reduceLT, Int.reduceLE, reduceCtorEq]
      · simp only [go_sem, Int.reduceTMod, Int.reduceTDiv, Int.reduceDiv, Int.reduceMod, Int.reduceAdd, Int.reduceSub, Int.reduceMul, Int.reduceNeg, Int.reducePow, Int.reduceEq, ↓reduceIte, Nat.reduceEqDiff, Nat.reduceAdd, Nat.reduceMul, Nat.reduceLeDiff, Nat.reduceSub, Nat.reduceLT, Int.reduceToNat, Int.reduceLT, Int.reduceLE, reduceCtorEq]
      · simp only [go_sem, Int.reduceTMod, Int.reduceTDiv, Int.reduceDiv, Int.reduceMod, Int.reduceAdd, Int.reduceSub, Int.reduceMul, Int.reduceNeg, Int.reducePow, Int.reduceEq, ↓reduceIte, Nat.reduceEqDiff, Nat.reduceAdd, Nat.reduceMul, Nat.reduceLeDiff, Nat.reduceSub, Nat.reduceLT, Int.reduceToNat, Int.reduceLT, Int.reduceLE, reduceCtorEq]
      · simp only [nadd, na_eq, k2, go_sem, Int.reduceTMod, Int.reduceTDiv, Int.reduceDiv, Int.reduceMod, Int.reduceAdd, Int.reduceSub, Int.reduceMul, Int.reduceNeg, Int.reducePow, Int.reduceEq, ↓reduceIte, Nat.reduceEqDiff, Nat.reduceAdd, Nat.reduceMul, Nat.reduceLeDiff, Nat.reduceSub, Nat.reduceLT, Int.reduceToNat, Int.reduceLT, Int.reduceLE, reduceCtorEq]
      · simp only [nadd, na_eq, go_sem, Int.reduceTMod, Int.reduceTDiv, Int.reduceDiv, Int.reduceMod, Int.reduceAdd, Int.reduceSub, Int.reduceMul, Int.reduceNeg, Int.reducePow, Int.reduceEq, ↓reduceIte, Nat.reduceEqDiff, Nat.reduceAdd, Nat.reduceMul, Nat.reduceLeDiff, Nat.reduceSub, Nat.reduceLT, Int.reduceToNat, Int.reduceLT, Int.reduceLE, reduceCtorEq]
      · simp only [nadd, na_eq, go_sem, Int.reduceTMod, Int.reduceTDiv, Int.reduceDiv, Int.reduceMod, Int.reduceAdd, Int.reduceSub, Int.reduceMul, Int.reduceNeg, Int.reducePow, Int.reduceEq, ↓reduceIte, Nat.reduceEqDiff, Nat.reduceAdd, Nat.reduceMul, Nat.reduceLeDiff, Nat.reduceSub, Nat.reduceLT, Int.reduceToNat, Int.reduceLT, Int.reduceLE, reduceCtorEq]
      · simp only [nadd, na_eq, go_sem, Int.reduceTMod, Int.reduceTDiv, Int.reduceDiv, Int.reduceMod, Int.reduceAdd, Int.reduceSub, Int.reduceMul, Int.reduceNeg, Int.reducePow, Int.reduceEq, ↓reduceIte, Nat.reduceEqDiff, Nat.reduceAdd, Nat.reduceMul, Nat.reduceLeDiff, Nat.reduceSub, Nat.reduceLT, Int.reduceToNat, Int.reduceLT, Int.reduceLE, reduceCtorEq]
      · intro j hj
        simp only [nadd, na_eq, na_0 hj, na_0 (show j < n + 1 by omega), na_0 (show j < n + 2 by omega), na_0 (show j < n + 3 by omega), go_sem, Int.reduceTMod, Int.reduceTDiv, Int.reduceDiv, Int.reduceMod, Int.reduceAdd, Int.reduceSub, Int.reduceMul, Int.reduceNeg, Int.reducePow, Int.reduceEq, ↓reduceIte, Nat.reduceEqDiff, Nat.reduceAdd, Nat.reduceMul, Nat.reduceLeDiff, Nat.reduceSub, Nat.reduceLT, Int.reduceToNat, Int.reduceLT, Int.reduceLE, reduceCtorEq]
    by_cases k3 : p.k = 3
    · obtain ⟨hn, hs⟩ := h23 (by omega)
      have vA := v_round p (clipV x) (clipV y) hn hcf
      have body : ∀ (e : Nat → Reg) (M : Mem), e 2 = .one (.ptr n 0) → e 3 = .one (.ptr (n + 1) 0) → e 4 = .one (.ptr (n + 2) 0) → e 5 = .one (.ptr (n + 3) 0) → M n = some ⟨p.cs, true⟩ → M (n + 1) = some ⟨[I (clipV x), I (clipV y)], true⟩ → M (n + 2) = some ⟨[U8 0, U8 0, U8 0, U8 0], true⟩ → M (n + 3) = some ⟨[U8 p.c0, U8 p.c1, U8 p.c2, U8 p.c3], true⟩ → (∀ j, j < n → M j = m j) →
          RK TA r10_7 e M (n + 4) (Kt.blk 0 (Kt.seq (.seq (.reg r10_8) .ret) (Kt.fin [.cellA 4 4] (fun r' _ _ => ∃ C : Co, r' = C.u ∧ IsCol p l x y C)))) := by
        intro e M e2 e3 e4 e5 m0 m1 m2 m3 hold
        obtain ⟨C, hC, vS⟩ := v_Shade (t := roundV p.fx p.fy p.tx p.ty (clipV x) (clipV y)) (hrM M hold).frz hs hby
        try simp only [r10_7, r10_8, e2, e3, e4, e5, m0, m1, m2, m3, rd_of m0, rd_of m1, rd_of m2, rd_of m3, vA, vS, go_sem, Int.reduceTMod, Int.reduceTDiv, Int.reduceDiv, Int.reduceMod, Int.reduceAdd, Int.reduceSub, Int.reduceMul, Int.reduceNeg, Int.reducePow, Int.reduceEq, ↓reduceIte, Nat.reduceEqDiff, Nat.reduceAdd, Nat.reduceMul, Nat.reduceLeDiff, Nat.reduceSub, Nat.reduceLT, Int.reduceToNat, Int.reduceLT, Int.reduceLE, reduceCtorEq]
        repeat' ((first | refine FK_split (fun h_ => ?_) (fun h_ => ?_) | refine GK_split (fun h_ => ?_) (fun h_ => ?_) | refine ite_both (fun h_ => ?_) (fun h_ => ?_)) <;> (try simp only [decide_eq_true_eq, decide_eq_false_iff_not, Bool.not_true, Bool.not_false, Bool.not_eq_true', Bool.not_eq_false', Bool.not_eq_eq_eq_not, Decidable.not_not] at h_) <;> (try simp only [r10_7, r10_8, e2, e3, e4, e5, m0, m1, m2, m3, rd_of m0, rd_of m1, rd_of m2, rd_of m3, vA, vS, h_, go_sem, Int.reduceTMod, Int.reduceTDiv, Int.reduceDiv, Int.reduceMod, Int.reduceAdd, Int.reduceSub, Int.reduceMul, Int.reduceNeg, Int.reducePow, Int.reduceEq, ↓reduceIte, Nat.reduceEqDiff, Nat.reduceAdd, Nat.reduceMul, Nat.reduceLeDiff, Nat.reduceSub, Nat.reduceLT, Int.reduceToNat, Int.reduceLT, Int.reduceLE, reduceCtorEq]))
        exact ⟨C, rfl, by unfold IsCol; rw [if_neg k2, if_pos k3]; exact hC⟩
      try simp only [F10, c10, r10_0, r10_1, r10_2, r10_3, r10_4, r10_6, vx, vy, k3, go_sem, Int.reduceTMod, Int.reduceTDiv, Int.reduceDiv, Int.reduceMod, Int.reduceAdd, Int.reduceSub, Int.reduceMul, Int.reduceNeg, Int.reducePow, Int.reduceEq, ↓reduceIte, Nat.reduceEqDiff, Nat.reduceAdd, Nat.reduceMul, Nat.reduceLeDiff, Nat.reduceSub, Nat.reduceLT, Int.reduceToNat, Int.reduceLT, Int.reduceLE, reduceCtorEq]
      repeat' ((first | refine FK_split (fun h_ => ?_) (fun h_ => ?_) | refine GK_split (fun h_ => ?_) (fun h_ => ?_) | refine ite_both (fun h_ => ?_) (fun h_ => ?_)) <;> (try simp only [decide_eq_true_eq, decide_eq_false_iff_not, Bool.not_true, Bool.not_false, Bool.not_eq_true', Bool.not_eq_false', Bool.not_eq_eq_eq_not, Decidable.not_not] at h_) <;> (try simp only [F10, c10, r10_0, r10_1, r10_2, r10_3, r10_4, r10_6, vx, vy, k3, h_, go_sem, Int.reduceTMod, Int.reduceTDiv, Int.reduceDiv, Int.reduceMod, Int.reduceAdd, Int.reduceSub, Int.reduceMul, Int.reduceNeg, Int.reducePow, Int.reduceEq, ↓reduceIte, Nat.reduceEqDiff, Nat.reduceAdd, Nat.reduceMul, Nat.reduceLeDiff, Nat.reduceSub, Nat.reduceLT, Int.reduceToNat, Int.reduceLT, Int.reduceLE, reduceCtorEq]))
      refine body _ _ ?_ ?_ ?_ ?_ ?_ ?_ ?_ ?_ ?_
      · simp only [go_sem, Int.reduceTMod, Int.reduceTDiv, Int.reduceDiv, Int.reduceMod, Int.reduceAdd, Int.reduceSub, Int.reduceMul, Int.reduceNeg, Int.reducePow, Int.reduceEq, ↓reduceIte, Nat.reduceEqDiff, Nat.reduceAdd, Nat.reduceMul, Nat.reduceLeDiff, Nat.reduceSub, Nat.reduceLT, Int.reduceToNat, Int.reduceLT, Int.reduceLE, reduceCtorEq]
      · simp only [go_sem, Int.reduceTMod, Int.reduceTDiv, Int.reduceDiv, Int.reduceMod, Int.reduceAdd, Int.reduceSub, Int.reduceMul, Int.reduceNeg, Int.reducePow, Int.reduceEq, ↓reduceIte, Nat.reduceEqDiff, Nat.reduceAdd, Nat.reduceMul, Nat.reduceLeDiff, Nat.reduceSub, Nat.reduceLT, Int.reduceToNat, Int.reduceLT, Int.reduceLE, reduceCtorEq]
      · simp only [go_sem, Int.reduceTMod, Int.reduceTDiv, Int.reduceDiv, Int.reduceMod, Int.reduceAdd, Int.reduceSub, Int.reduceMul, Int.reduceNeg, Int.reducePow, Int.reduceEq, ↓reduceIte, Nat.reduceEqDiff, Nat.reduceAdd, Nat.reduceMul, Nat.reduceLeDiff, Nat.reduceSub, Nat.reduceLT, Int.reduceToNat, Int.reduceLT, Int.reduceLE, reduceCtorEq]
      · simp only [go_sem, Int.reduceTMod, Int.reduceTDiv, Int.reduceDiv, Int.reduceMod, Int.reduceAdd, Int.reduceSub, Int.reduceMul, Int.reduceNeg, Int.reducePow, Int.reduceEq, ↓reduceIte, Nat.reduceEqDiff, Nat.reduceAdd, Nat.reduceMul, Nat.reduceLeDiff, Nat.reduceSub, Nat.reduceLT, Int.reduceToNat, Int.reduceLT, Int.reduceLE, reduceCtorEq]
      · simp only [nadd, na_eq, k3, go_sem, Int.reduceTMod, Int.reduceTDiv, Int.reduceDiv, Int.reduceMod, Int.reduceAdd, Int.reduceSub, Int.reduceMul, Int.reduceNeg, Int.reducePow, Int.reduceEq, ↓reduceIte, Nat.reduceEqDiff, Nat.reduceAdd, Nat.reduceMul, Nat.reduceLeDiff, Nat.reduceSub, Nat.reduceLT, Int.reduceToNat, Int.reduceLT, Int.reduceLE, reduceCtorEq]
      · simp only [nadd, na_eq, go_sem, Int.reduceTMod, Int.reduceTDiv, Int.reduceDiv, Int.reduceMod, Int.reduceAdd, Int.reduceSub, Int.reduceMul, Int.reduceNeg, Int.reducePow, Int.reduceEq, ↓reduceIte, Nat.reduceEqDiff, Nat.reduceAdd, Nat.reduceMul, Nat.reduceLeDiff, Nat.reduceSub, Nat.reduceLT, Int.reduceToNat, Int.reduceLT, Int.reduceLE, reduceCtorEq]
      · simp only [nadd, na_eq, go_sem, Int.reduceTMod, Int.reduceTDiv, Int.reduceDiv, Int.reduceMod, Int.reduceAdd, Int.reduceSub, Int.reduceMul, Int.reduceNeg, Int.reducePow, Int.reduceEq, ↓reduceIte, Nat.reduceEqDiff, Nat.reduceAdd, Nat.reduceMul, Nat.reduceLeDiff, Nat.reduceSub, Nat.reduceLT, Int.reduceToNat, Int.reduceLT, Int.reduceLE, reduceCtorEq]
      · simp only [nadd, na_eq, go_sem, Int.reduceTMod, Int.reduceTDiv, Int.reduceDiv, Int.reduceMod, Int.reduceAdd, Int.reduceSub, Int.reduceMul, Int.reduceNeg, Int.reducePow, Int.reduceEq, ↓reduceIte, Nat.reduceEqDiff, Nat.reduceAdd, Nat.reduceMul, Nat.reduceLeDiff, Nat.reduceSub, Nat.reduceLT, Int.reduceToNat, Int.reduceLT, Int.reduceLE, reduceCtorEq]
      · intro j hj
        simp only [nadd, na_eq, na_0 hj, na_0 (show j < n + 1 by omega), na_0 (show j < n + 2 by omega), na_0 (show j < n + 3 by omega), go_sem, Int.reduceTMod, Int.reduceTDiv, Int.reduceDiv, Int.reduceMod, Int.reduceAdd, Int.reduceSub, Int.reduceMul, Int.reduceNeg, Int.reducePow, Int.reduceEq, ↓reduceIte, Nat.reduceEqDiff, Nat.reduceAdd, Nat.reduceMul, Nat.reduceLeDiff, Nat.reduceSub, Nat.reduceLT, Int.reduceToNat, Int.reduceLT, Int.reduceLE, reduceCtorEq]
    have c2 : (p.k = 2) = False := eq_false k2
    have c3 : (p.k = 3) = False := eq_false k3
    try simp only [r10_0, r10_1, r10_2, r10_3, r10_4, r10_5, r10_6, r10_7, r10_8, c10, F10, vx, vy, c2, c3, go_sem, Int.reduceTMod, Int.reduceTDiv, Int.reduceDiv, Int.reduceMod, Int.reduceAdd, Int.reduceSub, Int.reduceMul, Int.reduceNeg, Int.reducePow, Int.reduceEq, ↓reduceIte, Nat.reduceEqDiff, Nat.reduceAdd, Nat.reduceMul, Nat.reduceLeDiff, Nat.reduceSub, Nat.reduceLT, Int.reduceToNat, Int.reduceLT, Int.reduceLE, reduceCtorEq]
    repeat' ((first | refine FK_split (fun h_ => ?_) (fun h_ => ?_) | refine GK_split (fun h_ => ?_) (fun h_ => ?_) | refine ite_both (fun h_ => ?_) (fun h_ => ?_)) <;> (try simp only [decide_eq_true_eq, decide_eq_false_iff_not, Bool.not_true, Bool.not_false, Bool.not_eq_true', Bool.not_eq_false', Bool.not_eq_eq_eq_not, Decidable.not_not] at h_) <;> (try simp only [r10_0, r10_1, r10_2, r10_3, r10_4, r10_5, r10_6, r10_7, r10_8, c10, F10, vx, vy, c2, c3, h_, go_sem, Int.reduceTMod, Int.reduceTDiv, Int.reduceDiv, Int.reduceMod, Int.reduceAdd, Int.reduceSub, Int.reduceMul, Int.reduceNeg, Int.reducePow, Int.reduceEq, ↓reduceIte, Nat.reduceEqDiff, Nat.reduceAdd, Nat.reduceMul, Nat.reduceLeDiff, Nat.reduceSub, Nat.reduceLT, Int.reduceToNat, Int.reduceLT, Int.reduceLE, reduceCtorEq]))
    exact ⟨p.co, rfl, by unfold IsCol; rw [if_neg k2, if_neg k3]⟩
  obtain ⟨r', h1, C, rfl, h2⟩ := callF_ex hF
  exact ⟨C, h2, h1⟩

/- The law StylePaints walked. Conditions: those that each theorem names. -/
open Go Go.Proofs
set_option linter.unusedSimpArgs false
set_option linter.unusedVariables false


/- SyQ: arguments of a law, opened for the evaluator. A plain library of this session's own; conditions: none beyond those that each theorem names. -/
open Go.RowKit Go.ChangeShapes Go.WideShapes Go.Deep

inductive CK where
  | int (k : IntKind)
  | bool

/-- Cells of these kinds. -/
def CksOk : List CK → List Value → Prop
  | [], vs => vs = []
  | .int k :: ks, vs => ∃ n r, vs = .int k n :: r ∧ (k.min ≤ n ∧ n ≤ k.max) ∧ CksOk ks r
  | .bool :: ks, vs => ∃ b r, vs = .bool b :: r ∧ CksOk ks r

def goF (P : Program) (rec : TypeId → Option (List CK)) : List Field → Nat → Option (List CK)
  | [], _ => some []
  | f :: fs, off =>
    match rec f.type with
    | none => none
    | some ks => if f.offset = off ∧ ks.length = P.cellsOf f.type then (goF P rec fs (off + ks.length)).map (ks ++ ·) else none

/-- The kinds of a type's cells, where all are numbers or Bools. -/
def kindsK (P : Program) : Nat → TypeId → Option (List CK)
  | 0, _ => none
  | n + 1, t =>
    match P.underlying t with
    | some (.int k) => some [.int k]
    | some .bool => some [.bool]
    | some (.struct fs) => (goF P (kindsK P n) fs.toList 0).bind fun ks => if ks.length = P.cellsOf t then some ks else none
    | some (.array m e) => (kindsK P n e).bind fun ks => if ks.length = P.cellsOf e ∧ m * ks.length = P.cellsOf t then some (List.replicate m ks).flatten else none
    | _ => none

theorem CksOk.app : ∀ {ks ls : List CK} {a b : List Value}, CksOk ks a → CksOk ls b → CksOk (ks ++ ls) (a ++ b)
  | [], ls, a, b, h, h' => by simp only [CksOk] at h; subst h; exact h'
  | .int k :: ks, ls, a, b, h, h' => by
    obtain ⟨n, r, rfl, h1, h2⟩ := h
    exact ⟨n, r ++ b, rfl, h1, CksOk.app h2 h'⟩
  | .bool :: ks, ls, a, b, h, h' => by
    obtain ⟨n, r, rfl, h2⟩ := h
    exact ⟨n, r ++ b, rfl, CksOk.app h2 h'⟩

theorem CksOk.len : ∀ {ks : List CK} {a : List Value}, CksOk ks a → a.length = ks.length
  | [], a, h => by simp only [CksOk] at h; subst h; rfl
  | .int k :: ks, a, h => by
    obtain ⟨n, r, rfl, h1, h2⟩ := h
    simp [CksOk.len h2]
  | .bool :: ks, a, h => by
    obtain ⟨n, r, rfl, h2⟩ := h
    simp [CksOk.len h2]

theorem CksOk.rel {ρ : Loc} {n : Nat} {w : World} : ∀ {ks : List CK} {a : List Value}, CksOk ks a → CRels ρ n w (a.map .sc) a
  | [], a, h => by simp only [CksOk] at h; subst h; simp [CRels]
  | .int k :: ks, a, h => by
    obtain ⟨m, r, rfl, h1, h2⟩ := h
    simp only [List.map_cons, CRels]
    exact ⟨_, _, rfl, ⟨rfl, rfl⟩, CksOk.rel h2⟩
  | .bool :: ks, a, h => by
    obtain ⟨m, r, rfl, h2⟩ := h
    simp only [List.map_cons, CRels]
    exact ⟨_, _, rfl, ⟨rfl, rfl⟩, CksOk.rel h2⟩

/-- Whatever reads as_ data of the type has these cells. -/
def OpK (P : Program) (T : TypeId) (ks : List CK) : Prop :=
  ∀ (H : Type) (enc : TypeId × Value → H) (w : World) (base : Nat) (spare : Nat → Bool) (held : Bool) (fuel : Nat) (cs : List Value) (x : DataW H × List MemPlace),
    DataW.trod enc P w base spare held fuel T cs = some x → CksOk ks cs

theorem has_of_wf {k : IntKind} {n : Int} (h : (Lit.int k n).wf = true) : k.min ≤ n ∧ n ≤ k.max := by
  simpa only [Lit.wf, Bool.and_eq_true, decide_eq_true_eq] using h

theorem goF_ok {P : Program} {rec : TypeId → Option (List CK)} (hrec : ∀ t ks, rec t = some ks → OpK P t ks) {H : Type} {enc : TypeId × Value → H} {w : World} {base : Nat} {spare : Nat → Bool} {held : Bool} {fuel : Nat} :
    ∀ {fs : List Field} {off : Nat} {ks : List CK} {cs : List Value}, goF P rec fs off = some ks → cs.length = off + ks.length →
      (∀ f ∈ fs, ∃ x, DataW.trod enc P w base spare held fuel f.type ((cs.drop f.offset).take (P.cellsOf f.type)) = some x) → CksOk ks (cs.drop off)
  | [], off, ks, cs, h, hl, hf => by
    simp only [goF, Option.some.injEq] at h
    subst h
    show cs.drop off = []
    exact List.drop_eq_nil_of_le (by simp at hl; omega)
  | f :: fs, off, ks, cs, h, hl, hf => by
    simp only [goF] at h
    split at h
    · cases h
    rename_i ks1 h1
    split at h
    case isFalse => cases h
    rename_i hc
    obtain ⟨ks2, h2, rfl⟩ := Option.map_eq_some_iff.1 h
    obtain ⟨x, hx⟩ := hf f (by simp)
    have h3 := hrec _ _ h1 H enc w base spare held fuel _ _ hx
    rw [hc.1, ← hc.2] at h3
    have h4 := goF_ok hrec (fs := fs) (off := off + ks1.length) (cs := cs) h2 (by simp at hl; omega) (fun g hg => hf g (by simp [hg]))
    have := h3.app h4
    rwa [← List.drop_drop, List.take_append_drop] at this

theorem rep_ok {ks : List CK} : ∀ (m : Nat) (cs : List Value), cs.length = m * ks.length → (∀ i, i < m → CksOk ks ((cs.drop (i * ks.length)).take ks.length)) → CksOk (List.replicate m ks).flatten cs
  | 0, cs, hl, h => by
    simp only [Nat.zero_mul, List.length_eq_zero_iff] at hl
    subst hl
    exact rfl
  | m + 1, cs, hl, h => by
    rw [List.replicate_succ, List.flatten_cons]
    have h0 := h 0 (by omega)
    rw [Nat.zero_mul, List.drop_zero] at h0
    have h1 := rep_ok (ks := ks) m (cs.drop ks.length) (by rw [List.length_drop, hl, Nat.succ_mul]; omega) (fun i hi => by
      have := h (i + 1) (by omega)
      rwa [Nat.succ_mul, Nat.add_comm, ← List.drop_drop] at this)
    have := h0.app h1
    rwa [List.take_append_drop] at this

theorem kindsK_ok {P : Program} : ∀ {k : Nat} {T : TypeId} {ks : List CK}, kindsK P k T = some ks → OpK P T ks
  | 0, T, ks, h => by simp [kindsK] at h
  | k + 1, T, ks, h => by
    intro H enc w base spare held fuel cs x hx
    simp only [kindsK] at h
    split at h
    · rename_i kd ht
      cases h
      obtain ⟨n, rfl, _, hw⟩ := DataW.trod_int ht hx
      exact ⟨n, [], rfl, has_of_wf hw, rfl⟩
    · rename_i ht
      cases h
      obtain ⟨b, rfl, _⟩ := DataW.trod_bool ht hx
      exact ⟨b, [], rfl, rfl⟩
    · rename_i fs ht
      obtain ⟨ks', h1, h2⟩ := Option.bind_eq_some_iff.1 h
      split at h2
      case isFalse => cases h2
      cases h2
      rename_i hlen
      obtain ⟨xs, n, _, _, hl, hxs, hf⟩ := DataW.trod_struct ht hx
      have := goF_ok (fun t ks h => kindsK_ok h) (H := H) (enc := enc) (w := w) (base := base) (spare := spare) (held := held) (fuel := n) (cs := cs) h1 (by rw [hl, hlen]; omega) (fun f hfm => by
        obtain ⟨i, hi, rfl⟩ := List.mem_iff_getElem.1 hfm
        have hi' : i < fs.size := by simpa using hi
        have := hf i fs[i] (by simp [hi'])
        rw [List.getElem?_eq_getElem (by omega)] at this
        exact ⟨_, by simpa using this⟩)
      rwa [List.drop_zero] at this
    · rename_i m e ht
      obtain ⟨ks', h1, h2⟩ := Option.bind_eq_some_iff.1 h
      split at h2
      case isFalse => cases h2
      cases h2
      rename_i hc
      obtain ⟨xs, n, _, _, hl, hxs, hf⟩ := DataW.trod_array ht hx
      refine rep_ok m cs (by rw [hl, hc.2]) (fun i hi => ?_)
      have := hf i hi
      rw [List.getElem?_eq_getElem (by omega), ← hc.1] at this
      exact kindsK_ok h1 H enc w base spare held n _ _ this
    · cases h

/-- A flat argument that is a struct or an array. -/
theorem arg_agg {P : Program} {T : TypeId} {ks : List CK} {k : Nat} (hk : kindsK P k T = some ks) {H : Type} {enc : TypeId × Value → H} {w : World} {base : Nat} {spare : Nat → Bool} {held : Bool} {cs : Array Value} {d : DataW H} {ps : List MemPlace}
    (h : DataW.Trod enc P w base spare held T (.agg cs) d ps) : ∃ l : List Value, cs = l.toArray ∧ CksOk ks l := by
  obtain ⟨fuel, hf⟩ := h
  exact ⟨cs.toList, by simp, kindsK_ok hk H enc w base spare held fuel _ _ hf⟩

theorem arg_int {P : Program} {T : TypeId} {k : IntKind} {w : World} {base : Nat} {v : Value} (ht : P.underlying T = some (.int k)) (h : Value.okWide P w .any base T v) : ∃ n, v = .int k n ∧ k.min ≤ n ∧ n ≤ k.max := by
  simp only [Value.okWide, ht, Cell.okWide] at h
  cases v <;> simp_all [Cell.ok, IntKind.has]

/-- Rows of cells of these kinds. -/
def RowsOk (ks : List CK) (n : Nat) (vs : List Value) : Prop := CksOk (List.replicate n ks).flatten vs

/-- A slice of flat elements: nil, or a row of cells that stands in the world. -/
theorem arg_slice {P : Program} {T e : TypeId} {ks : List CK} {k : Nat} (ht : P.underlying T = some (.slice e)) (hk : kindsK P k e = some ks) (hc : P.cellsOf e = ks.length) (h0 : ks.length ≠ 0) {H : Type} {enc : TypeId × Value → H} {w : World} {base base' : Nat} {held : Bool} {v : Value} {d : DataW H} {ps : List MemPlace}
    (hv : Value.okWide P w .any base' T v) (h : DataW.Trod enc P w base (fun _ => true) held T v d ps) :
    v = .slice none 0 0 ∨ ∃ b o len cap vs, v = .slice (some ⟨b, o, none⟩) len cap ∧ b < w.heap.size ∧ len ≤ cap ∧ cap ≤ maxLen ∧ RowsOk ks cap vs ∧ ∀ (i : Nat) (x : Value), vs[i]? = some x → w.cell? ⟨b, o + i, none⟩ = some x := by
  obtain ⟨a, len, cap, rfl⟩ := okWide_slice ht hv
  obtain ⟨fuel, hf⟩ := h
  rcases open_slice ht hf with ⟨hcs, _⟩ | ⟨a', len', cap', m, n, D, Pl, hcs, _, hl, hm, hmm, _, hx⟩
  · left
    exact (List.cons.inj hcs).1
  · right
    obtain ⟨rfl, rfl, rfl⟩ := Value.slice.inj (List.cons.inj hcs).1
    rw [if_pos rfl] at hmm
    subst hmm
    have hspot : a'.spot = none ∧ a'.block < w.heap.size := by
      simp only [Value.okWide, ht, Cell.okWide, Cell.ok] at hv
      obtain ⟨_, _, _, h1, row, cells, h2, _⟩ := hv
      refine ⟨h1, ?_⟩
      unfold World.shape? at h2
      split at h2
      · rename_i hb
        exact (Array.getElem?_eq_some_iff.1 hb).1
      · cases h2
    obtain ⟨b, o, sp⟩ := a'
    obtain ⟨rfl, hb⟩ := hspot
    refine ⟨b, o, len, m, (List.range (m * ks.length)).map (fun i => (w.cell? ⟨b, o + i, none⟩).getD (.bool false)), rfl, hb, hl, hm, ?_, ?_⟩
    · refine rep_ok m _ (by simp) (fun i hi => ?_)
      obtain ⟨cs', h1, h2⟩ := hx i hi
      have h3 := kindsK_ok hk H enc w base _ held n _ _ h2
      obtain ⟨_, h4, h5⟩ := World.cells?_some h1
      have hle : i * ks.length + ks.length ≤ m * ks.length := by
        have := Nat.mul_le_mul_right ks.length (show i + 1 ≤ m from hi)
        rwa [Nat.succ_mul] at this
      have : ((List.map (fun i => (w.cell? ⟨b, o + i, none⟩).getD (.bool false)) (List.range (m * ks.length))).drop (i * ks.length)).take ks.length = cs' := by
        refine List.ext_getElem? (fun j => ?_)
        rw [hc] at h4 h5
        by_cases hj : j < ks.length
        · rw [List.getElem?_take_of_lt hj, List.getElem?_drop, List.getElem?_map, List.getElem?_range (by omega)]
          have h6 := h5 j hj
          rw [Deep.add_add] at h6
          have h7 : (⟨b, o, none⟩ : Addr).add (i * ks.length + j) = ⟨b, o + (i * ks.length + j), none⟩ := by
            unfold Addr.add
            split
            · rename_i hz; rw [hz]; rfl
            · rfl
          rw [h7] at h6
          rw [Option.map_some, h6, List.getElem?_eq_getElem (by omega)]
          rfl
        · rw [List.getElem?_eq_none (by simp; omega), List.getElem?_eq_none (by omega)]
      rw [this]
      exact h3
    · intro i x hi
      rw [List.getElem?_map] at hi
      obtain ⟨j, hj, rfl⟩ := Option.map_eq_some_iff.1 hi
      obtain ⟨hj1, rfl⟩ := List.getElem?_eq_some_iff.1 hj
      rw [List.getElem_range] at hj ⊢
      have hj2 : i < m * ks.length := by simpa using hj1
      have hpos : 0 < ks.length := by omega
      have hdm := Nat.div_add_mod i ks.length
      have hmod := Nat.mod_lt i hpos
      have hdiv : i / ks.length < m := Nat.div_lt_of_lt_mul (by rwa [Nat.mul_comm])
      obtain ⟨cs', h1, _⟩ := hx _ hdiv
      obtain ⟨_, h4, h5⟩ := World.cells?_some h1
      rw [hc] at h4 h5
      have h6 := h5 _ hmod
      rw [Deep.add_add] at h6
      have h7 : (⟨b, o, none⟩ : Addr).add (i / ks.length * ks.length + i % ks.length) = ⟨b, o + i, none⟩ := by
        unfold Addr.add
        rw [Nat.mul_comm, hdm]
        split
        · rename_i hz; rw [hz]; rfl
        · rfl
      rw [h7, List.getElem?_eq_getElem (by omega)] at h6
      rw [h6]
      rfl

/-! ### memory -/
def Held (m : Mem) : Prop := ∀ id b, m id = some b → b.own = false
theorem held_none : Held (fun _ => none) := fun _ _ h => by cases h
theorem held_upd {m : Mem} (h : Held m) (k : Nat) (cs : List Cell) : Held (upd m k (some ⟨cs, false⟩)) := by
  intro id b hb
  unfold upd at hb
  split at hb
  · cases hb; rfl
  · exact h id b hb

def atL (ρ : Loc) (n b o : Nat) : Loc := fun id => if id = n then (b, o) else ρ id

theorem atL_le {ρ : Loc} {n : Nat} {w : World} {b o : Nat} : Le ρ n w (atL ρ n b o) (n + 1) w :=
  ⟨by omega, fun id hi => by unfold atL; rw [if_neg (by omega)], fun _ h => h⟩

theorem rows_rel {ρ : Loc} {n : Nat} {w : World} {ks : List CK} {cap : Nat} {vs : List Value} (h : RowsOk ks cap vs) : ∀ (i : Nat) (x : Value), vs[i]? = some x → CRel ρ n w (.sc x) x := by
  intro i x hx
  have h1 : ∀ {ks : List CK} {vs : List Value}, CksOk ks vs → ∀ v ∈ vs, v.oneCell' = true := by
    intro ks vs h
    have hr : CRels ρ n w (vs.map .sc) vs := h.rel
    exact CRels.all_one _ _ hr
  exact ⟨rfl, h1 h x (List.mem_of_getElem? hx)⟩

/-- One row of cells more, held. -/
theorem addRow {ρ : Loc} {n : Nat} {w : World} {m : Mem} (hm : MRel ρ n w m) (hh : Held m) {b o cap : Nat} {ks : List CK} {vs : List Value} (hb : b < w.heap.size) (hr : RowsOk ks cap vs) (hc : ∀ (i : Nat) (x : Value), vs[i]? = some x → w.cell? ⟨b, o + i, none⟩ = some x) :
    MRel (atL ρ n b o) (n + 1) w (upd m n (some ⟨vs.map .sc, false⟩)) := by
  refine ⟨fun id bl h => ?_, fun id bl h => ?_, fun id bl h i c hi => ?_, fun id bl h ho => ?_, fun id bl h ho => ?_⟩
  · unfold upd at h
    split at h
    · omega
    · have := hm.lt id bl h; omega
  · unfold upd at h
    unfold atL
    split at h
    · rename_i he; rw [if_pos he]; exact hb
    · rename_i he; rw [if_neg he]; exact hm.blk id bl h
  · unfold upd at h
    split at h
    · rename_i he
      cases h
      subst he
      rw [List.getElem?_map] at hi
      obtain ⟨x, hx, rfl⟩ := Option.map_eq_some_iff.1 hi
      refine ⟨x, ?_, rows_rel hr i x hx⟩
      unfold atL
      rw [if_pos rfl]
      exact hc i x hx
    · rename_i he
      obtain ⟨v, h1, h2⟩ := hm.cells id bl h i c hi
      refine ⟨v, ?_, CRel.mono atL_le _ _ h2⟩
      unfold atL
      rw [if_neg he]
      exact h1
  · rw [held_upd hh n _ id bl h] at ho; cases ho
  · rw [held_upd hh n _ id bl h] at ho; cases ho

/-- The slice over such a row. -/
theorem addSl {ρ : Loc} {n : Nat} {w : World} {b o len cap sz : Nat} {vs : List Value} (hl : len ≤ cap) (hv : vs.length = cap * sz) (hc : ∀ (i : Nat) (x : Value), vs[i]? = some x → w.cell? ⟨b, o + i, none⟩ = some x) :
    RRel (atL ρ n b o) (n + 1) w (.one (.sl n 0 len none sz)) (.slice (some ⟨b, o, none⟩) len cap) := by
  have h0 : (atL ρ n b o) n = (b, o) := if_pos rfl
  refine ⟨by omega, o, cap, by rw [h0], fun _ => by rw [h0]; rfl, hl, (by intro c h; cases h), fun j hj => ?_⟩
  rw [h0]
  rw [hc j _ (List.getElem?_eq_getElem (by omega))]
  rfl

/- Arguments that are structs with slices in them, opened for the evaluator. Conditions: those that each theorem names. -/
open Go.RowKit Go.ChangeShapes Go.WideShapes Go.Deep
set_option linter.unusedVariables false

/-- What a cell holds that is a slice of flat elements. -/
def SlOk (w : World) (ks : List CK) (v : Value) : Prop :=
  v = .slice none 0 0 ∨ ∃ b o len cap vs, v = .slice (some ⟨b, o, none⟩) len cap ∧ b < w.heap.size ∧ len ≤ cap ∧ cap ≤ maxLen ∧ RowsOk ks cap vs ∧ ∀ (i : Nat) (x : Value), vs[i]? = some x → w.cell? ⟨b, o + i, none⟩ = some x

theorem mix_slice {P : Program} {T e : TypeId} {ks : List CK} {k : Nat} (ht : P.underlying T = some (.slice e)) (hk : kindsK P k e = some ks) (hc : P.cellsOf e = ks.length) (h0 : ks.length ≠ 0) {H : Type} {enc : TypeId × Value → H} {w : World} {base base' : Nat} {held : Bool} {c : Value}
    (h : Cell.okWide P w .any base' T c ∧ ∃ x fuel, DataW.trod enc P w base (fun _ => true) held fuel T [c] = some x) : SlOk w ks c := by
  obtain ⟨hv, ⟨d, ps⟩, fuel, hf⟩ := h
  have hv2 : Value.okWide P w .any base' T c := by simp only [Value.okWide, ht]; exact hv
  obtain ⟨a, len, cap, rfl⟩ := okWide_slice ht hv2
  exact arg_slice ht hk hc h0 hv2 ⟨fuel, hf⟩
/-- A slice cell, laid into the evaluator's memory under the number n. -/
theorem mix_lay {ρ : Loc} {n : Nat} {w : World} {m : Mem} (hm : MRel ρ n w m) (hh : Held m) {ks : List CK} {v : Value} (h : SlOk w ks v) :
    ∃ (ρ' : Loc) (n' : Nat) (m' : Mem) (c : Cell), MRel ρ' n' w m' ∧ Held m' ∧ Le ρ n w ρ' n' w ∧ CRel ρ' n' w c v ∧ (∀ id, id < n → m' id = m id) ∧ n' = n + 1 ∧
      ((c = .sc (.slice none 0 0) ∧ v = .slice none 0 0) ∨ ∃ len cap vs, c = .sl n 0 len none ks.length ∧ len ≤ cap ∧ cap ≤ maxLen ∧ RowsOk ks cap vs ∧ m' n = some ⟨vs.map .sc, false⟩) := by
  rcases h with rfl | ⟨b, o, len, cap, vs, rfl, hb, hl, hm2, hr, hc⟩
  · have hmm : MRel ρ (n + 1) w m := by
      refine ⟨fun id bl h => by have := hm.lt id bl h; omega, hm.blk, fun id bl h i c hi => ?_, hm.soft, hm.apart⟩
      obtain ⟨x, h1, h2⟩ := hm.cells id bl h i c hi
      exact ⟨x, h1, CRel.mono ⟨by omega, fun _ _ => rfl, fun _ h => h⟩ _ _ h2⟩
    exact ⟨ρ, n + 1, m, .sc (.slice none 0 0), hmm, hh, ⟨by omega, fun _ _ => rfl, fun _ h => h⟩, by simp [CRel, Value.oneCell'], fun _ _ => rfl, rfl, Or.inl ⟨rfl, rfl⟩⟩
  · have hlen : vs.length = cap * ks.length := by
      have := hr.len
      simpa using this
    have hs := addSl (ρ := ρ) (n := n) (w := w) (len := len) (sz := ks.length) hl hlen hc
    exact ⟨atL ρ n b o, n + 1, _, .sl n 0 len none ks.length, addRow hm hh hb hr hc, held_upd hh n _, atL_le, hs, fun id hid => upd_ne _ _ (by omega), rfl, Or.inr ⟨len, cap, vs, rfl, hl, hm2, hr, upd_same _ _ _⟩⟩

/- Styles as_ arguments; the row StyleChecks. Conditions: those that each theorem names. -/
open Go Go.Proofs
open Go.RowKit Go.ChangeShapes Go.WideShapes Go.Deep
set_option linter.unusedVariables false

/-- A struct, by its cells and by its fields. -/
theorem arg_fields {P : Program} {T : TypeId} {fs : Array Field} {ts : List TypeId} (ht : P.underlying T = some (.struct fs)) (hts : P.cellTypes P.depth T = some ts) {H : Type} {enc : TypeId × Value → H} {w : World} {base base' : Nat} {held : Bool} {v : Value} {d : DataW H} {ps : List MemPlace}
    (hv : Value.okWide P w .any base' T v) (h : DataW.Trod enc P w base (fun _ => true) held T v d ps) :
    ∃ cs : List Value, v = .agg cs.toArray ∧ cs.length = P.cellsOf T ∧ (∀ (i : Nat) (c : Value), cs[i]? = some c → ∃ u, ts[i % ts.length]? = some u ∧ Cell.okWide P w .any base' u c) ∧
      ∀ (j : Nat) (f : Field) (z : Nat) (l : List Value), fs[j]? = some f → P.cellsOf f.type = z → (cs.drop f.offset).take z = l → ∃ x n, DataW.trod enc P w base (fun _ => true) held n f.type l = some x := by
  simp only [Value.okWide, ht] at hv
  obtain ⟨cs, rfl, hsz, ts', h1, h2, h3⟩ := hv
  obtain rfl := Option.some.inj (hts.symm.trans h1)
  obtain ⟨fuel, hf⟩ := h
  have hf' : DataW.trod enc P w base (fun _ => true) held fuel T cs.toList = some (d, ps) := hf
  obtain ⟨xs, n, _, _, hl, hxs, hg⟩ := DataW.trod_struct ht hf'
  refine ⟨cs.toList, by simp, by simpa using hsz, fun i c hc => h3 i c (by simpa using hc), fun j f z l hj hz hl2 => ?_⟩
  subst hz
  subst hl2
  have h4 := hg j f hj
  have hjn : j < xs.length := by
    have := (Array.getElem?_eq_some_iff.1 hj).1
    omega
  rw [List.getElem?_eq_getElem hjn] at h4
  exact ⟨_, n, h4⟩
theorem stops_of {cap : Nat} {vs : List Value} (h : RowsOk [.int .i64, .int .u8, .int .u8, .int .u8, .int .u8] cap vs) : ∃ l : List Stp, l.length = cap ∧ vs.map .sc = l.flatMap Stp.cs ∧ ∀ x ∈ l, x.by := by
  unfold RowsOk at h
  induction cap generalizing vs with
  | zero => simp only [List.replicate_zero, List.flatten_nil, CksOk] at h; subst h; exact ⟨[], rfl, rfl, by simp⟩
  | succ k ih =>
    rw [List.replicate_succ, List.flatten_cons] at h
    simp only [List.cons_append, List.nil_append, CksOk] at h
    obtain ⟨n, r, rfl, h1, c0, r0, rfl, h2, c1, r1, rfl, h3, c2, r2, rfl, h4, c3, r3, rfl, h5, h6⟩ := h
    obtain ⟨l, e1, e2, e3⟩ := ih h6
    simp only [IntKind.min, IntKind.max, IntKind.signed, IntKind.bits] at h2 h3 h4 h5
    simp at h2 h3 h4 h5
    refine ⟨⟨n, c0, c1, c2, c3⟩ :: l, by simp [e1], by simp [e2], fun x hx => ?_⟩
    rcases List.mem_cons.1 hx with rfl | hx
    · unfold Stp.by byteB
      simp only
      omega
    · exact e3 x hx
theorem stops_rl {m : Mem} {n : Nat} {c : Cell} {v : Value} (h : (c = .sc (.slice none 0 0) ∧ v = .slice none 0 0) ∨ ∃ len cap vs, c = .sl n 0 len none [CK.int .i64, CK.int .u8, CK.int .u8, CK.int .u8, CK.int .u8].length ∧ len ≤ cap ∧ cap ≤ maxLen ∧ RowsOk [.int .i64, .int .u8, .int .u8, .int .u8, .int .u8] cap vs ∧ m n = some ⟨vs.map .sc, false⟩) :
    ∃ l : List Stp, RSt m (n + 1) (.one c) l ∧ ∀ x ∈ l, x.by := by
  rcases h with ⟨rfl, _⟩ | ⟨len, cap, vs, rfl, h1, _, h2, h3⟩
  · exact ⟨[], Or.inl ⟨rfl, rfl⟩, by simp⟩
  · obtain ⟨l, e1, e2, e3⟩ := stops_of h2
    have hlen : (l.take len).length = len := by rw [List.length_take]; omega
    refine ⟨l.take len, Or.inr ⟨n, 0, none, by rw [hlen]; rfl, by omega, ?_⟩, fun x hx => e3 x (List.mem_of_mem_take hx)⟩
    rw [rd_of h3, hlen, e2]
    have e4 : (l.flatMap Stp.cs).length = cap * 5 := by rw [flatMap_len Stp.cs 5 cs5, e1]
    unfold rdB
    rw [if_pos (by rw [e4]; omega), List.drop_zero]
    congr 1
    have : ∀ (l : List Stp) (k : Nat), (l.flatMap Stp.cs).take (k * 5) = (l.take k).flatMap Stp.cs := by
      intro l
      induction l with
      | nil => intro k; simp
      | cons x l ih =>
        intro k
        cases k with
        | zero => simp
        | succ k =>
          rw [show (k + 1) * 5 = k * 5 + 1 + 1 + 1 + 1 + 1 by omega]
          simp [ih k]
    exact this l len
/-- The cells of a style as_ values. -/
abbrev Sty.vs (s : Sty) (vf vp vd : Value) : List Value := [.int .i64 s.fill.k, .int .u8 s.fill.c0, .int .u8 s.fill.c1, .int .u8 s.fill.c2, .int .u8 s.fill.c3, .int .i64 s.fill.fx, .int .i64 s.fill.fy, .int .i64 s.fill.tx, .int .i64 s.fill.ty, vf,
  .int .i64 s.pen.k, .int .u8 s.pen.c0, .int .u8 s.pen.c1, .int .u8 s.pen.c2, .int .u8 s.pen.c3, .int .i64 s.pen.fx, .int .i64 s.pen.fy, .int .i64 s.pen.tx, .int .i64 s.pen.ty, vp, .int .i64 s.rule, .int .i64 s.half, .int .i64 s.cap, vd, .int .i64 s.ph, .int .i64 s.op, .int .i64 s.mode]
abbrev stK : List CK := [.int .i64, .int .u8, .int .u8, .int .u8, .int .u8]

/- Paints as_ arguments; the row StylePaints. Conditions: those that each theorem names. -/
open Go Go.Proofs
open Go.RowKit Go.ChangeShapes Go.WideShapes Go.Deep
set_option linter.unusedVariables false

def isPai (w : World) (v : Value) : Prop := ∃ (p : Pai) (vs : Value), v = .agg #[.int .i64 p.k, .int .u8 p.c0, .int .u8 p.c1, .int .u8 p.c2, .int .u8 p.c3, .int .i64 p.fx, .int .i64 p.fy, .int .i64 p.tx, .int .i64 p.ty, vs] ∧ p.by ∧ SlOk w stK vs
set_option maxRecDepth 100000 in
theorem open28 {H : Type} {enc : TypeId × Value → H} {w : World} {base base' : Nat} {held : Bool} {v : Value} {d : DataW H} {ps : List MemPlace} (hv : Value.okWide Try.prog w .any base' 28 v) (h : DataW.Trod enc Try.prog w base (fun _ => true) held 28 v d ps) : isPai w v := by
  obtain ⟨cs, rfl, hl, hc, hf⟩ := arg_fields (ts := [3, 5, 5, 5, 5, 3, 3, 3, 3, 26]) Try.underlying28 (by kernel_rfl) hv h
  rw [show Try.prog.cellsOf 28 = 10 by kernel_rfl] at hl
  match cs, hl with
  | [a0, a1, a2, a3, a4, a5, a6, a7, a8, a9], _ =>
    obtain ⟨u0, k0, t0⟩ := hf 0 _ 1 [a0] rfl (by kernel_rfl) rfl
    obtain ⟨u1, k1, t1⟩ := hf 1 _ 4 [a1, a2, a3, a4] rfl (by kernel_rfl) rfl
    obtain ⟨u2, k2, t2⟩ := hf 2 _ 2 [a5, a6] rfl (by kernel_rfl) rfl
    obtain ⟨u3, k3, t3⟩ := hf 3 _ 2 [a7, a8] rfl (by kernel_rfl) rfl
    obtain ⟨u4, k4, t4⟩ := hf 4 _ 1 [a9] rfl (by kernel_rfl) rfl
    have c0 := kindsK_ok (P := Try.prog) (k := 8) (ks := [.int .i64]) (by kernel_rfl) _ _ _ _ _ _ _ _ _ t0
    have c1 := kindsK_ok (P := Try.prog) (k := 8) (ks := [.int .u8, .int .u8, .int .u8, .int .u8]) (by kernel_rfl) _ _ _ _ _ _ _ _ _ t1
    have c2 := kindsK_ok (P := Try.prog) (k := 8) (ks := [.int .i64, .int .i64]) (by kernel_rfl) _ _ _ _ _ _ _ _ _ t2
    have c3 := kindsK_ok (P := Try.prog) (k := 8) (ks := [.int .i64, .int .i64]) (by kernel_rfl) _ _ _ _ _ _ _ _ _ t3
    simp only [CksOk] at c0 c1 c2 c3
    obtain ⟨q0, _, e0, _, _⟩ := c0
    obtain ⟨q1, _, e1, b1, q2, _, rfl, b2, q3, _, rfl, b3, q4, _, rfl, b4, rfl⟩ := c1
    obtain ⟨q5, _, e5, _, q6, _, rfl, _, rfl⟩ := c2
    obtain ⟨q7, _, e7, _, q8, _, rfl, _, rfl⟩ := c3
    simp only [List.cons.injEq, and_true] at e0 e1 e5 e7
    simp only [IntKind.min, IntKind.max, IntKind.signed, IntKind.bits] at b1 b2 b3 b4
    simp at b1 b2 b3 b4
    obtain ⟨v0, hv0, hw0⟩ := hc 9 a9 rfl
    obtain rfl : (26 : Nat) = v0 := Option.some.inj hv0
    have sf : SlOk w stK a9 := mix_slice (k := 8) Try.underlying26 (by kernel_rfl) (by kernel_rfl) (by decide) ⟨hw0, u4, k4, t4⟩
    obtain ⟨rfl, _⟩ := e0
    obtain ⟨rfl, rfl, rfl, rfl⟩ := e1
    obtain ⟨rfl, rfl⟩ := e5
    obtain ⟨rfl, rfl⟩ := e7
    refine ⟨⟨q0, q1, q2, q3, q4, q5, q6, q7, q8, .sc (.slice none 0 0)⟩, a9, rfl, ?_, sf⟩
    unfold Pai.by byteB
    simp only
    omega
/-- A paint, laid. -/
theorem pai_lay {W : World} {v : Value} (h : isPai W v) : ∃ (p : Pai) (l : List Stp) (ρ : Loc) (m : Mem), MRel ρ 1 W m ∧ Held m ∧ RSt m 1 (.one p.st) l ∧ p.by ∧ (∀ x ∈ l, x.by) ∧ RRel ρ 1 W (.agg p.cs) v := by
  obtain ⟨p, vs, rfl, hp, sf⟩ := h
  obtain ⟨ρ1, n1, m1, cf, hm1, hh1, le1, hc1, old1, rfl, k1⟩ := mix_lay (noMem (fun _ => (0, 0)) 0 W) held_none sf
  obtain ⟨lf, r1, b1⟩ := stops_rl k1
  have hp' : (Pai.mk p.k p.c0 p.c1 p.c2 p.c3 p.fx p.fy p.tx p.ty cf).by := hp
  refine ⟨⟨p.k, p.c0, p.c1, p.c2, p.c3, p.fx, p.fy, p.tx, p.ty, cf⟩, lf, ρ1, m1, hm1, hh1, r1, hp', b1, _, rfl, ?_⟩
  exact ⟨_, _, rfl, ⟨rfl, rfl⟩, _, _, rfl, ⟨rfl, rfl⟩, _, _, rfl, ⟨rfl, rfl⟩, _, _, rfl, ⟨rfl, rfl⟩, _, _, rfl, ⟨rfl, rfl⟩, _, _, rfl, ⟨rfl, rfl⟩, _, _, rfl, ⟨rfl, rfl⟩, _, _, rfl, ⟨rfl, rfl⟩, _, _, rfl, ⟨rfl, rfl⟩, _, _, rfl, hc1, rfl⟩

/- The law StyleShades walked. Conditions: those that each theorem names. -/
open Go Go.Proofs
set_option linter.unusedSimpArgs false
set_option linter.unusedVariables false

theorem isq_zero : isq 0 = 0 := isq_eq (by decide) (by decide) (by decide)
theorem col_from {p : Pai} {l : List Stp} {C : Co} {s0 : Stp} (hn : Near p.fx p.fy p.tx p.ty) (hk : p.k = 2 ∨ p.k = 3) (h0 : l[0]? = some s0) (ha : 0 < s0.a) (h : IsCol p l p.fx p.fy C) : C = s0.co := by
  obtain ⟨c1, c2⟩ := clip_id hn.f
  have one : IsShade l 0 s0.co := Or.inl ⟨s0, h0, by omega, rfl⟩
  unfold IsCol at h
  rw [c1, c2] at h
  split at h
  · have e : alongV p.fx p.fy p.tx p.ty p.fx p.fy = 0 := by simp [alongV, nA]
    rw [e] at h
    exact h.one one
  · rw [if_pos (by omega)] at h
    have e : roundV p.fx p.fy p.tx p.ty p.fx p.fy = 0 := by simp [roundV, isq_zero]
    rw [e] at h
    exact h.one one
theorem col_to {p : Pai} {l : List Stp} {C : Co} {sL : Stp} (hn : Near p.fx p.fy p.tx p.ty) (hk : p.k = 2 ∨ p.k = 3) (S : StopsR l) (hL : l[l.length - 1]? = some sL) (ha : sL.a < 65536) (h : IsCol p l p.tx p.ty C) : C = sL.co := by
  obtain ⟨c1, c2⟩ := clip_id hn.t
  obtain ⟨d0, d1⟩ := dA_bd hn
  have hle : ∀ (j : Nat) (u : Stp), l[j]? = some u → u.a ≤ sL.a := fun j u hu => by
    have hj : j < l.length := (List.getElem?_eq_some_iff.1 hu).1
    exact S.le (l.length - 1 - j) j u sL hu (by rw [show j + (l.length - 1 - j) = l.length - 1 by omega]; exact hL)
  have one : IsShade l 65536 sL.co := Or.inr (Or.inr ⟨sL, hL, fun j u hu => by have := hle j u hu; omega, fun u hu => by have := hle 0 u hu; omega, rfl⟩)
  unfold IsCol at h
  rw [c1, c2] at h
  split at h
  · have e : alongV p.fx p.fy p.tx p.ty p.tx p.ty = 65536 := by
      have : nA p.fx p.fy p.tx p.ty p.tx p.ty = dA p.fx p.fy p.tx p.ty := rfl
      unfold alongV
      rw [this, Int.mul_ediv_cancel_left _ (by omega)]
    rw [e] at h
    exact h.one one
  · rw [if_pos (by omega)] at h
    have e : roundV p.fx p.fy p.tx p.ty p.tx p.ty = 65536 := by
      have := all_pos hn
      unfold roundV
      rw [show (p.tx - p.fx) * (p.tx - p.fx) + (p.ty - p.fy) * (p.ty - p.fy) = dA p.fx p.fy p.tx p.ty from rfl, Int.mul_ediv_cancel_left _ (by omega)]
    rw [e] at h
    exact h.one one
theorem col_perp {p : Pai} {l : List Stp} {C D : Co} {x y x' y' k : Int} (hk : p.k = 2) (hq : farB x y = false) (hr : farB x' y' = false) (ex : x' = x - k * (p.ty - p.fy)) (ey : y' = y + k * (p.tx - p.fx)) (h1 : IsCol p l x' y' C) (h2 : IsCol p l x y D) : C = D := by
  obtain ⟨c1, c2⟩ := clip_id hq
  obtain ⟨c3, c4⟩ := clip_id hr
  unfold IsCol at h1 h2
  rw [if_pos hk, c3, c4] at h1
  rw [if_pos hk, c1, c2] at h2
  have e : alongV p.fx p.fy p.tx p.ty x' y' = alongV p.fx p.fy p.tx p.ty x y := by
    have : nA p.fx p.fy p.tx p.ty x' y' = nA p.fx p.fy p.tx p.ty x y := by
      unfold nA
      rw [ex, ey]
      grind
    unfold alongV
    rw [this]
  rw [e] at h1
  exact h1.one h2
theorem col_mirror {p : Pai} {l : List Stp} {C D : Co} {x y x' y' : Int} (hk : p.k = 3) (hq : farB x y = false) (hr : farB x' y' = false) (ex : x' = 2 * p.fx - x) (ey : y' = 2 * p.fy - y) (h1 : IsCol p l x' y' C) (h2 : IsCol p l x y D) : C = D := by
  obtain ⟨c1, c2⟩ := clip_id hq
  obtain ⟨c3, c4⟩ := clip_id hr
  unfold IsCol at h1 h2
  rw [if_neg (by omega), if_pos hk, c3, c4] at h1
  rw [if_neg (by omega), if_pos hk, c1, c2] at h2
  have e : roundV p.fx p.fy p.tx p.ty x' y' = roundV p.fx p.fy p.tx p.ty x y := by
    have : (x' - p.fx) * (x' - p.fx) + (y' - p.fy) * (y' - p.fy) = (x - p.fx) * (x - p.fx) + (y - p.fy) * (y - p.fy) := by
      rw [ex, ey]
      grind
    unfold roundV
    rw [this]
  rw [e] at h1
  exact h1.one h2
theorem kd_bd {k d : Int} (h1 : -100 ≤ k) (h2 : k ≤ 100) (h3 : -33554432 ≤ d) (h4 : d ≤ 33554432) : -3355443200 ≤ k * d ∧ k * d ≤ 3355443200 := by
  rcases Int.le_total 0 d with c | c
  · have a1 := Int.mul_le_mul_of_nonneg_right h2 c
    have a2 := Int.mul_le_mul_of_nonneg_right h1 c
    omega
  · have a1 := Int.mul_le_mul_of_nonneg_right h2 (show 0 ≤ -d by omega)
    have a2 := Int.mul_le_mul_of_nonneg_right h1 (show 0 ≤ -d by omega)
    rw [Int.mul_neg, Int.mul_neg] at a1 a2
    omega
set_option maxHeartbeats 4000000 in
theorem law3 {p : Pai} {l : List Stp} {x y k : Int} {m : Mem} {n : Nat} (hr : RSt m n (.one p.st) l) (hp : p.by) (hby : ∀ s ∈ l, s.by) : Fn TA 3 [.agg p.cs, .agg [I x, I y], RI k] m n (fun r _ _ => r = RB true) := by
  refine Fn_ofK (fn := F3) rfl (by simp [F3]) ?_
  have hlen := hr.len
  obtain ⟨M1, hM1⟩ : ∃ M1, M1 = upd (upd m n (some ⟨p.cs, true⟩)) (n + 1) (some ⟨[I x, I y], true⟩) := ⟨_, rfl⟩
  have hr1 : RSt M1 (n + 2) (.one p.st) l := hr.keep (by omega) (fun id hid => by rw [hM1, upd_ne _ _ (by omega), upd_ne _ _ (by omega)])
  by_cases g : 60 < (l.length : Int)
  · skip
    try simp only [r3_0, r3_1, r3_2, r3_3, r3_4, r3_5, r3_6, r3_7, r3_8, r3_9, r3_10, r3_11, c3, F3, hlen, g, v_awake16, go_sem, Int.reduceTMod, Int.reduceTDiv, Int.reduceDiv, Int.reduceMod, Int.reduceAdd, Int.reduceSub, Int.reduceMul, Int.reduceNeg, Int.reducePow, Int.reduceEq, ↓reduceIte, Nat.reduceEqDiff, Nat.reduceAdd, Nat.reduceMul, Nat.reduceLeDiff, Nat.reduceSub, Nat.reduceLT, Int.reduceToNat, Int.reduceLT, Int.reduceLE, reduceCtorEq]
    repeat' ((first | refine FK_split (fun h_ => ?_) (fun h_ => ?_) | refine GK_split (fun h_ => ?_) (fun h_ => ?_) | refine ite_both (fun h_ => ?_) (fun h_ => ?_)) <;> (try simp only [decide_eq_true_eq, decide_eq_false_iff_not, Bool.not_true, Bool.not_false, Bool.not_eq_true', Bool.not_eq_false', Bool.not_eq_eq_eq_not, Decidable.not_not] at h_) <;> (try simp only [r3_0, r3_1, r3_2, r3_3, r3_4, r3_5, r3_6, r3_7, r3_8, r3_9, r3_10, r3_11, c3, F3, hlen, g, v_awake16, h_, go_sem, Int.reduceTMod, Int.reduceTDiv, Int.reduceDiv, Int.reduceMod, Int.reduceAdd, Int.reduceSub, Int.reduceMul, Int.reduceNeg, Int.reducePow, Int.reduceEq, ↓reduceIte, Nat.reduceEqDiff, Nat.reduceAdd, Nat.reduceMul, Nat.reduceLeDiff, Nat.reduceSub, Nat.reduceLT, Int.reduceToNat, Int.reduceLT, Int.reduceLE, reduceCtorEq]))
  have vR := v_right p l (frz M1) (n + 2) hr1.frz hby hp (by omega)
  rw [hM1] at vR
  by_cases hR : rightV p l = 0
  case neg =>
    try simp only [F3, c3, r3_0, r3_1, r3_2, hlen, g, vR, hR, v_awake16, go_sem, Int.reduceTMod, Int.reduceTDiv, Int.reduceDiv, Int.reduceMod, Int.reduceAdd, Int.reduceSub, Int.reduceMul, Int.reduceNeg, Int.reducePow, Int.reduceEq, ↓reduceIte, Nat.reduceEqDiff, Nat.reduceAdd, Nat.reduceMul, Nat.reduceLeDiff, Nat.reduceSub, Nat.reduceLT, Int.reduceToNat, Int.reduceLT, Int.reduceLE, reduceCtorEq]
    repeat' ((first | refine FK_split (fun h_ => ?_) (fun h_ => ?_) | refine GK_split (fun h_ => ?_) (fun h_ => ?_) | refine ite_both (fun h_ => ?_) (fun h_ => ?_)) <;> (try simp only [decide_eq_true_eq, decide_eq_false_iff_not, Bool.not_true, Bool.not_false, Bool.not_eq_true', Bool.not_eq_false', Bool.not_eq_eq_eq_not, Decidable.not_not] at h_) <;> (try simp only [F3, c3, r3_0, r3_1, r3_2, hlen, g, vR, hR, v_awake16, h_, go_sem, Int.reduceTMod, Int.reduceTDiv, Int.reduceDiv, Int.reduceMod, Int.reduceAdd, Int.reduceSub, Int.reduceMul, Int.reduceNeg, Int.reducePow, Int.reduceEq, ↓reduceIte, Nat.reduceEqDiff, Nat.reduceAdd, Nat.reduceMul, Nat.reduceLeDiff, Nat.reduceSub, Nat.reduceLT, Int.reduceToNat, Int.reduceLT, Int.reduceLE, reduceCtorEq]))
  have vF := v_far x y (fun _ => none) 0
  by_cases k2 : p.k < 2
  · skip
    try simp only [F3, c3, r3_0, r3_1, r3_2, hlen, g, vR, hR, k2, v_awake16, go_sem, Int.reduceTMod, Int.reduceTDiv, Int.reduceDiv, Int.reduceMod, Int.reduceAdd, Int.reduceSub, Int.reduceMul, Int.reduceNeg, Int.reducePow, Int.reduceEq, ↓reduceIte, Nat.reduceEqDiff, Nat.reduceAdd, Nat.reduceMul, Nat.reduceLeDiff, Nat.reduceSub, Nat.reduceLT, Int.reduceToNat, Int.reduceLT, Int.reduceLE, reduceCtorEq]
    repeat' ((first | refine FK_split (fun h_ => ?_) (fun h_ => ?_) | refine GK_split (fun h_ => ?_) (fun h_ => ?_) | refine ite_both (fun h_ => ?_) (fun h_ => ?_)) <;> (try simp only [decide_eq_true_eq, decide_eq_false_iff_not, Bool.not_true, Bool.not_false, Bool.not_eq_true', Bool.not_eq_false', Bool.not_eq_eq_eq_not, Decidable.not_not] at h_) <;> (try simp only [F3, c3, r3_0, r3_1, r3_2, hlen, g, vR, hR, k2, v_awake16, h_, go_sem, Int.reduceTMod, Int.reduceTDiv, Int.reduceDiv, Int.reduceMod, Int.reduceAdd, Int.reduceSub, Int.reduceMul, Int.reduceNeg, Int.reducePow, Int.reduceEq, ↓reduceIte, Nat.reduceEqDiff, Nat.reduceAdd, Nat.reduceMul, Nat.reduceLeDiff, Nat.reduceSub, Nat.reduceLT, Int.reduceToNat, Int.reduceLT, Int.reduceLE, reduceCtorEq]))
  cases hq : farB x y
  case true =>
    rw [hq] at vF
    try simp only [F3, c3, r3_0, r3_1, r3_2, hlen, g, vR, hR, k2, vF, v_awake16, go_sem, Int.reduceTMod, Int.reduceTDiv, Int.reduceDiv, Int.reduceMod, Int.reduceAdd, Int.reduceSub, Int.reduceMul, Int.reduceNeg, Int.reducePow, Int.reduceEq, ↓reduceIte, Nat.reduceEqDiff, Nat.reduceAdd, Nat.reduceMul, Nat.reduceLeDiff, Nat.reduceSub, Nat.reduceLT, Int.reduceToNat, Int.reduceLT, Int.reduceLE, reduceCtorEq]
    repeat' ((first | refine FK_split (fun h_ => ?_) (fun h_ => ?_) | refine GK_split (fun h_ => ?_) (fun h_ => ?_) | refine ite_both (fun h_ => ?_) (fun h_ => ?_)) <;> (try simp only [decide_eq_true_eq, decide_eq_false_iff_not, Bool.not_true, Bool.not_false, Bool.not_eq_true', Bool.not_eq_false', Bool.not_eq_eq_eq_not, Decidable.not_not] at h_) <;> (try simp only [F3, c3, r3_0, r3_1, r3_2, hlen, g, vR, hR, k2, vF, v_awake16, h_, go_sem, Int.reduceTMod, Int.reduceTDiv, Int.reduceDiv, Int.reduceMod, Int.reduceAdd, Int.reduceSub, Int.reduceMul, Int.reduceNeg, Int.reducePow, Int.reduceEq, ↓reduceIte, Nat.reduceEqDiff, Nat.reduceAdd, Nat.reduceMul, Nat.reduceLeDiff, Nat.reduceSub, Nat.reduceLT, Int.reduceToNat, Int.reduceLT, Int.reduceLE, reduceCtorEq]))
  rw [hq] at vF
  by_cases ka : k < -100
  · skip
    try simp only [F3, c3, r3_0, r3_1, r3_2, hlen, g, vR, hR, k2, vF, ka, v_awake16, go_sem, Int.reduceTMod, Int.reduceTDiv, Int.reduceDiv, Int.reduceMod, Int.reduceAdd, Int.reduceSub, Int.reduceMul, Int.reduceNeg, Int.reducePow, Int.reduceEq, ↓reduceIte, Nat.reduceEqDiff, Nat.reduceAdd, Nat.reduceMul, Nat.reduceLeDiff, Nat.reduceSub, Nat.reduceLT, Int.reduceToNat, Int.reduceLT, Int.reduceLE, reduceCtorEq]
    repeat' ((first | refine FK_split (fun h_ => ?_) (fun h_ => ?_) | refine GK_split (fun h_ => ?_) (fun h_ => ?_) | refine ite_both (fun h_ => ?_) (fun h_ => ?_)) <;> (try simp only [decide_eq_true_eq, decide_eq_false_iff_not, Bool.not_true, Bool.not_false, Bool.not_eq_true', Bool.not_eq_false', Bool.not_eq_eq_eq_not, Decidable.not_not] at h_) <;> (try simp only [F3, c3, r3_0, r3_1, r3_2, hlen, g, vR, hR, k2, vF, ka, v_awake16, h_, go_sem, Int.reduceTMod, Int.reduceTDiv, Int.reduceDiv, Int.reduceMod, Int.reduceAdd, Int.reduceSub, Int.reduceMul, Int.reduceNeg, Int.reducePow, Int.reduceEq, ↓reduceIte, Nat.reduceEqDiff, Nat.reduceAdd, Nat.reduceMul, Nat.reduceLeDiff, Nat.reduceSub, Nat.reduceLT, Int.reduceToNat, Int.reduceLT, Int.reduceLE, reduceCtorEq]))
  by_cases kb : 100 < k
  · skip
    try simp only [F3, c3, r3_0, r3_1, r3_2, hlen, g, vR, hR, k2, vF, ka, kb, v_awake16, go_sem, Int.reduceTMod, Int.reduceTDiv, Int.reduceDiv, Int.reduceMod, Int.reduceAdd, Int.reduceSub, Int.reduceMul, Int.reduceNeg, Int.reducePow, Int.reduceEq, ↓reduceIte, Nat.reduceEqDiff, Nat.reduceAdd, Nat.reduceMul, Nat.reduceLeDiff, Nat.reduceSub, Nat.reduceLT, Int.reduceToNat, Int.reduceLT, Int.reduceLE, reduceCtorEq]
    repeat' ((first | refine FK_split (fun h_ => ?_) (fun h_ => ?_) | refine GK_split (fun h_ => ?_) (fun h_ => ?_) | refine ite_both (fun h_ => ?_) (fun h_ => ?_)) <;> (try simp only [decide_eq_true_eq, decide_eq_false_iff_not, Bool.not_true, Bool.not_false, Bool.not_eq_true', Bool.not_eq_false', Bool.not_eq_eq_eq_not, Decidable.not_not] at h_) <;> (try simp only [F3, c3, r3_0, r3_1, r3_2, hlen, g, vR, hR, k2, vF, ka, kb, v_awake16, h_, go_sem, Int.reduceTMod, Int.reduceTDiv, Int.reduceDiv, Int.reduceMod, Int.reduceAdd, Int.reduceSub, Int.reduceMul, Int.reduceNeg, Int.reducePow, Int.reduceEq, ↓reduceIte, Nat.reduceEqDiff, Nat.reduceAdd, Nat.reduceMul, Nat.reduceLeDiff, Nat.reduceSub, Nat.reduceLT, Int.reduceToNat, Int.reduceLT, Int.reduceLE, reduceCtorEq]))
  obtain ⟨hk, h23, hc⟩ := right_kinds hR
  obtain ⟨hn, hs⟩ := h23 (by omega)
  have hk23 : p.k = 2 ∨ p.k = 3 := by omega
  have S := stopsR hs
  have hpos := S.pos
  have hl16 := S.len
  obtain ⟨s0, h0⟩ : ∃ s, l[0]? = some s := ⟨l[0], List.getElem?_eq_getElem hpos⟩
  obtain ⟨sL, hL⟩ : ∃ s, l[l.length - 1]? = some s := ⟨l[l.length - 1], List.getElem?_eq_getElem (by omega)⟩
  obtain ⟨id, off, cap, b, hst, hid, r0, r0b, r0c, r0d⟩ := at_stop hr h0
  obtain ⟨id', off', cap', b', e, _, rL, rLb, rLc, rLd⟩ := at_stop hr hL
  rw [hst] at e
  injection e with e
  injection e with e1 e2 e3 e4
  subst e1
  subst e2
  injection hst with hst
  rw [r0b] at rLb
  cases rLb
  have n0 := na_0 hid
  have n1 := na_0 (show id < n + 1 by omega)
  have n2 := na_0 (show id < n + 2 by omega)
  have n3 := na_0 (show id < n + 3 by omega)
  rw [Nat.zero_mul, Nat.add_zero] at r0c
  rw [Nat.zero_mul, Nat.zero_add] at r0d
  have w1 : IntKind.i64.wrap ((l.length : Int) - 1) = ((l.length - 1 : Nat) : Int) := (wr_eq (by omega) (by omega)).trans (by omega)
  have z1 : ((0 : Int) < (l.length : Int)) = True := eq_true (by omega)
  have z2 : (((l.length - 1 : Nat) : Int) < (l.length : Int)) = True := eq_true (by omega)
  have z3 : (0 ≤ ((l.length - 1 : Nat) : Int)) = True := eq_true (by omega)
  have hlen' : lenO (.one (.sl id off l.length cap 5)) = some (l.length : Int) := by rw [← hst]; exact hlen
  have hf := far_iff.1 hn.f
  have ht := far_iff.1 hn.t
  have hqq := far_iff.1 hq
  have body : ∀ (e : Nat → Reg) (M : Mem), e 2 = RI k → e 3 = .one (.ptr n 0) → e 4 = .one (.ptr (n + 1) 0) → e 7 = .one (.ptr (n + 2) 0) → e 8 = .one (.ptr (n + 3) 0) → M n = some ⟨p.cs, true⟩ → M (n + 1) = some ⟨[I x, I y], true⟩ → M (n + 2) = some ⟨[U8 s0.c0, U8 s0.c1, U8 s0.c2, U8 s0.c3], true⟩ → M (n + 3) = some ⟨[U8 sL.c0, U8 sL.c1, U8 sL.c2, U8 sL.c3], true⟩ → (∀ j, j < n → M j = m j) →
      RK TA r3_4 e M (n + 4) (Kt.seq (.cond (.t 86) (.seq (.reg r3_5) .ret) .skip) (Kt.seq (.seq (.reg r3_6) (.seq (.seq (.reg r3_7) (.cond (.t 104) (.seq (.reg r3_8) (.seq (.reg r3_9) .ret)) .skip)) (.seq (.reg r3_10) (.seq (.reg r3_11) .ret)))) (Kt.fin [.tmp 6] (fun r _ _ => r = RB true)))) := by
    intro e M e2 e3 e4 e7 e8 m0 m1 m2 m3 hold
    have hrM : RSt M (n + 4) (.one p.st) l := hr.keep (by omega) hold
    have mi : M id = some b := by rw [hold id hid]; exact r0b
    obtain ⟨CF, hCF, vF⟩ := v_At (x := p.fx) (y := p.fy) hrM.frz hR hby
    obtain ⟨CT, hCT, vT⟩ := v_At (x := p.tx) (y := p.ty) hrM.frz hR hby
    have fin : ∀ (e' : Nat → Reg), e' 2 = RI k → e' 3 = .one (.ptr n 0) → e' 4 = .one (.ptr (n + 1) 0) → RK TA r3_6 e' M (n + 4) (Kt.seq (.seq (.seq (.reg r3_7) (.cond (.t 104) (.seq (.reg r3_8) (.seq (.reg r3_9) .ret)) .skip)) (.seq (.reg r3_10) (.seq (.reg r3_11) .ret))) (Kt.fin [.tmp 6] (fun r _ _ => r = RB true))) := by
      intro e' e2 e3 e4
      have m4 : ∀ j, j < n + 4 → j ≠ n + 4 := fun j hj => by omega
      have w2 : IntKind.i64.wrap (p.tx - p.fx) = p.tx - p.fx := wr_eq (by omega) (by omega)
      have w3 : IntKind.i64.wrap (p.ty - p.fy) = p.ty - p.fy := wr_eq (by omega) (by omega)
      by_cases k2' : p.k = 2
      · obtain ⟨b1, b2⟩ := kd_bd (k := k) (d := p.ty - p.fy) (by omega) (by omega) (by omega) (by omega)
        obtain ⟨b3, b4⟩ := kd_bd (k := k) (d := p.tx - p.fx) (by omega) (by omega) (by omega) (by omega)
        have w4 : IntKind.i64.wrap (k * (p.ty - p.fy)) = k * (p.ty - p.fy) := wr_eq (by omega) (by omega)
        have w5 : IntKind.i64.wrap (k * (p.tx - p.fx)) = k * (p.tx - p.fx) := wr_eq (by omega) (by omega)
        have w6 : IntKind.i64.wrap (x - k * (p.ty - p.fy)) = x - k * (p.ty - p.fy) := wr_eq (by omega) (by omega)
        have w7 : IntKind.i64.wrap (y + k * (p.tx - p.fx)) = y + k * (p.tx - p.fx) := wr_eq (by omega) (by omega)
        have body2 : ∀ (e : Nat → Reg) (M : Mem), e 3 = .one (.ptr n 0) → e 4 = .one (.ptr (n + 1) 0) → e 10 = .one (.ptr (n + 5) 0) → M n = some ⟨p.cs, true⟩ → M (n + 1) = some ⟨[I x, I y], true⟩ → M (n + 5) = some ⟨[I (x - k * (p.ty - p.fy)), I (y + k * (p.tx - p.fx))], true⟩ → (∀ j, j < n → M j = m j) →
            RK TA r3_9 e M (n + 6) (Kt.seq .ret (Kt.seq (.seq (.reg r3_10) (.seq (.reg r3_11) .ret)) (Kt.fin [.tmp 6] (fun r _ _ => r = RB true)))) := by
          intro e M e3 e4 e10 m0 m1 m5 hold
          have hrM : RSt M (n + 6) (.one p.st) l := hr.keep (by omega) hold
          have vG := v_far (x - k * (p.ty - p.fy)) (y + k * (p.tx - p.fx)) (fun _ => none) 0
          obtain ⟨C, hC, vC⟩ := v_At (x := x - k * (p.ty - p.fy)) (y := y + k * (p.tx - p.fx)) hrM.frz hR hby
          obtain ⟨D, hD, vD⟩ := v_At (x := x) (y := y) hrM.frz hR hby
          cases hfr : farB (x - k * (p.ty - p.fy)) (y + k * (p.tx - p.fx))
          · rw [hfr] at vG
            obtain rfl := col_perp k2' hq hfr rfl rfl hC hD
            try simp only [r3_9, e3, e4, e10, m0, m1, m5, rd_of m0, rd_of m1, rd_of m5, vG, vC, vD, v_awake16, go_sem, Int.reduceTMod, Int.reduceTDiv, Int.reduceDiv, Int.reduceMod, Int.reduceAdd, Int.reduceSub, Int.reduceMul, Int.reduceNeg, Int.reducePow, Int.reduceEq, ↓reduceIte, Nat.reduceEqDiff, Nat.reduceAdd, Nat.reduceMul, Nat.reduceLeDiff, Nat.reduceSub, Nat.reduceLT, Int.reduceToNat, Int.reduceLT, Int.reduceLE, reduceCtorEq]
            repeat' ((first | refine FK_split (fun h_ => ?_) (fun h_ => ?_) | refine GK_split (fun h_ => ?_) (fun h_ => ?_) | refine ite_both (fun h_ => ?_) (fun h_ => ?_)) <;> (try simp only [decide_eq_true_eq, decide_eq_false_iff_not, Bool.not_true, Bool.not_false, Bool.not_eq_true', Bool.not_eq_false', Bool.not_eq_eq_eq_not, Decidable.not_not] at h_) <;> (try simp only [r3_9, e3, e4, e10, m0, m1, m5, rd_of m0, rd_of m1, rd_of m5, vG, vC, vD, v_awake16, h_, go_sem, Int.reduceTMod, Int.reduceTDiv, Int.reduceDiv, Int.reduceMod, Int.reduceAdd, Int.reduceSub, Int.reduceMul, Int.reduceNeg, Int.reducePow, Int.reduceEq, ↓reduceIte, Nat.reduceEqDiff, Nat.reduceAdd, Nat.reduceMul, Nat.reduceLeDiff, Nat.reduceSub, Nat.reduceLT, Int.reduceToNat, Int.reduceLT, Int.reduceLE, reduceCtorEq]))
          · rw [hfr] at vG
            try simp only [r3_9, e3, e4, e10, m0, m1, m5, rd_of m0, rd_of m1, rd_of m5, vG, v_awake16, go_sem, Int.reduceTMod, Int.reduceTDiv, Int.reduceDiv, Int.reduceMod, Int.reduceAdd, Int.reduceSub, Int.reduceMul, Int.reduceNeg, Int.reducePow, Int.reduceEq, ↓reduceIte, Nat.reduceEqDiff, Nat.reduceAdd, Nat.reduceMul, Nat.reduceLeDiff, Nat.reduceSub, Nat.reduceLT, Int.reduceToNat, Int.reduceLT, Int.reduceLE, reduceCtorEq]
            repeat' ((first | refine FK_split (fun h_ => ?_) (fun h_ => ?_) | refine GK_split (fun h_ => ?_) (fun h_ => ?_) | refine ite_both (fun h_ => ?_) (fun h_ => ?_)) <;> (try simp only [decide_eq_true_eq, decide_eq_false_iff_not, Bool.not_true, Bool.not_false, Bool.not_eq_true', Bool.not_eq_false', Bool.not_eq_eq_eq_not, Decidable.not_not] at h_) <;> (try simp only [r3_9, e3, e4, e10, m0, m1, m5, rd_of m0, rd_of m1, rd_of m5, vG, v_awake16, h_, go_sem, Int.reduceTMod, Int.reduceTDiv, Int.reduceDiv, Int.reduceMod, Int.reduceAdd, Int.reduceSub, Int.reduceMul, Int.reduceNeg, Int.reducePow, Int.reduceEq, ↓reduceIte, Nat.reduceEqDiff, Nat.reduceAdd, Nat.reduceMul, Nat.reduceLeDiff, Nat.reduceSub, Nat.reduceLT, Int.reduceToNat, Int.reduceLT, Int.reduceLE, reduceCtorEq]))
        try simp only [r3_6, r3_7, r3_8, e2, e3, e4, m0, m1, rd_of m0, rd_of m1, k2', w2, w3, w4, w5, w6, w7, go_sem, Int.reduceTMod, Int.reduceTDiv, Int.reduceDiv, Int.reduceMod, Int.reduceAdd, Int.reduceSub, Int.reduceMul, Int.reduceNeg, Int.reducePow, Int.reduceEq, ↓reduceIte, Nat.reduceEqDiff, Nat.reduceAdd, Nat.reduceMul, Nat.reduceLeDiff, Nat.reduceSub, Nat.reduceLT, Int.reduceToNat, Int.reduceLT, Int.reduceLE, reduceCtorEq]
        repeat' ((first | refine FK_split (fun h_ => ?_) (fun h_ => ?_) | refine GK_split (fun h_ => ?_) (fun h_ => ?_) | refine ite_both (fun h_ => ?_) (fun h_ => ?_)) <;> (try simp only [decide_eq_true_eq, decide_eq_false_iff_not, Bool.not_true, Bool.not_false, Bool.not_eq_true', Bool.not_eq_false', Bool.not_eq_eq_eq_not, Decidable.not_not] at h_) <;> (try simp only [r3_6, r3_7, r3_8, e2, e3, e4, m0, m1, rd_of m0, rd_of m1, k2', w2, w3, w4, w5, w6, w7, h_, go_sem, Int.reduceTMod, Int.reduceTDiv, Int.reduceDiv, Int.reduceMod, Int.reduceAdd, Int.reduceSub, Int.reduceMul, Int.reduceNeg, Int.reducePow, Int.reduceEq, ↓reduceIte, Nat.reduceEqDiff, Nat.reduceAdd, Nat.reduceMul, Nat.reduceLeDiff, Nat.reduceSub, Nat.reduceLT, Int.reduceToNat, Int.reduceLT, Int.reduceLE, reduceCtorEq]))
        refine body2 _ _ ?_ ?_ ?_ ?_ ?_ ?_ ?_
        · simp only [e3, go_sem, Int.reduceTMod, Int.reduceTDiv, Int.reduceDiv, Int.reduceMod, Int.reduceAdd, Int.reduceSub, Int.reduceMul, Int.reduceNeg, Int.reducePow, Int.reduceEq, ↓reduceIte, Nat.reduceEqDiff, Nat.reduceAdd, Nat.reduceMul, Nat.reduceLeDiff, Nat.reduceSub, Nat.reduceLT, Int.reduceToNat, Int.reduceLT, Int.reduceLE, reduceCtorEq]
        · simp only [e4, go_sem, Int.reduceTMod, Int.reduceTDiv, Int.reduceDiv, Int.reduceMod, Int.reduceAdd, Int.reduceSub, Int.reduceMul, Int.reduceNeg, Int.reducePow, Int.reduceEq, ↓reduceIte, Nat.reduceEqDiff, Nat.reduceAdd, Nat.reduceMul, Nat.reduceLeDiff, Nat.reduceSub, Nat.reduceLT, Int.reduceToNat, Int.reduceLT, Int.reduceLE, reduceCtorEq]
        · simp only [go_sem, Int.reduceTMod, Int.reduceTDiv, Int.reduceDiv, Int.reduceMod, Int.reduceAdd, Int.reduceSub, Int.reduceMul, Int.reduceNeg, Int.reducePow, Int.reduceEq, ↓reduceIte, Nat.reduceEqDiff, Nat.reduceAdd, Nat.reduceMul, Nat.reduceLeDiff, Nat.reduceSub, Nat.reduceLT, Int.reduceToNat, Int.reduceLT, Int.reduceLE, reduceCtorEq]
        · simp only [nadd, na_eq, m0, go_sem, Int.reduceTMod, Int.reduceTDiv, Int.reduceDiv, Int.reduceMod, Int.reduceAdd, Int.reduceSub, Int.reduceMul, Int.reduceNeg, Int.reducePow, Int.reduceEq, ↓reduceIte, Nat.reduceEqDiff, Nat.reduceAdd, Nat.reduceMul, Nat.reduceLeDiff, Nat.reduceSub, Nat.reduceLT, Int.reduceToNat, Int.reduceLT, Int.reduceLE, reduceCtorEq]
        · simp only [nadd, na_eq, m1, go_sem, Int.reduceTMod, Int.reduceTDiv, Int.reduceDiv, Int.reduceMod, Int.reduceAdd, Int.reduceSub, Int.reduceMul, Int.reduceNeg, Int.reducePow, Int.reduceEq, ↓reduceIte, Nat.reduceEqDiff, Nat.reduceAdd, Nat.reduceMul, Nat.reduceLeDiff, Nat.reduceSub, Nat.reduceLT, Int.reduceToNat, Int.reduceLT, Int.reduceLE, reduceCtorEq]
        · simp only [nadd, na_eq, go_sem, Int.reduceTMod, Int.reduceTDiv, Int.reduceDiv, Int.reduceMod, Int.reduceAdd, Int.reduceSub, Int.reduceMul, Int.reduceNeg, Int.reducePow, Int.reduceEq, ↓reduceIte, Nat.reduceEqDiff, Nat.reduceAdd, Nat.reduceMul, Nat.reduceLeDiff, Nat.reduceSub, Nat.reduceLT, Int.reduceToNat, Int.reduceLT, Int.reduceLE, reduceCtorEq]
        · intro j hj
          simp only [nadd, na_eq, na_0 (show j < n + 4 by omega), na_0 (show j < n + 5 by omega), go_sem, Int.reduceTMod, Int.reduceTDiv, Int.reduceDiv, Int.reduceMod, Int.reduceAdd, Int.reduceSub, Int.reduceMul, Int.reduceNeg, Int.reducePow, Int.reduceEq, ↓reduceIte, Nat.reduceEqDiff, Nat.reduceAdd, Nat.reduceMul, Nat.reduceLeDiff, Nat.reduceSub, Nat.reduceLT, Int.reduceToNat, Int.reduceLT, Int.reduceLE, reduceCtorEq]
          exact hold j hj
      · have k3' : p.k = 3 := by omega
        have w4 : IntKind.i64.wrap (2 * p.fx) = 2 * p.fx := wr_eq (by omega) (by omega)
        have w5 : IntKind.i64.wrap (2 * p.fy) = 2 * p.fy := wr_eq (by omega) (by omega)
        have w6 : IntKind.i64.wrap (2 * p.fx - x) = 2 * p.fx - x := wr_eq (by omega) (by omega)
        have w7 : IntKind.i64.wrap (2 * p.fy - y) = 2 * p.fy - y := wr_eq (by omega) (by omega)
        have body2 : ∀ (e : Nat → Reg) (M : Mem), e 3 = .one (.ptr n 0) → e 4 = .one (.ptr (n + 1) 0) → e 11 = .one (.ptr (n + 5) 0) → M n = some ⟨p.cs, true⟩ → M (n + 1) = some ⟨[I x, I y], true⟩ → M (n + 5) = some ⟨[I (2 * p.fx - x), I (2 * p.fy - y)], true⟩ → (∀ j, j < n → M j = m j) →
            RK TA r3_11 e M (n + 6) (Kt.seq .ret (Kt.fin [.tmp 6] (fun r _ _ => r = RB true))) := by
          intro e M e3 e4 e10 m0 m1 m5 hold
          have hrM : RSt M (n + 6) (.one p.st) l := hr.keep (by omega) hold
          have vG := v_far (2 * p.fx - x) (2 * p.fy - y) (fun _ => none) 0
          obtain ⟨C, hC, vC⟩ := v_At (x := 2 * p.fx - x) (y := 2 * p.fy - y) hrM.frz hR hby
          obtain ⟨D, hD, vD⟩ := v_At (x := x) (y := y) hrM.frz hR hby
          cases hfr : farB (2 * p.fx - x) (2 * p.fy - y)
          · rw [hfr] at vG
            obtain rfl := col_mirror k3' hq hfr rfl rfl hC hD
            try simp only [r3_11, e3, e4, e10, m0, m1, m5, rd_of m0, rd_of m1, rd_of m5, vG, vC, vD, v_awake16, go_sem, Int.reduceTMod, Int.reduceTDiv, Int.reduceDiv, Int.reduceMod, Int.reduceAdd, Int.reduceSub, Int.reduceMul, Int.reduceNeg, Int.reducePow, Int.reduceEq, ↓reduceIte, Nat.reduceEqDiff, Nat.reduceAdd, Nat.reduceMul, Nat.reduceLeDiff, Nat.reduceSub, Nat.reduceLT, Int.reduceToNat, Int.reduceLT, Int.reduceLE, reduceCtorEq]
            repeat' ((first | refine FK_split (fun h_ => ?_) (fun h_ => ?_) | refine GK_split (fun h_ => ?_) (fun h_ => ?_) | refine ite_both (fun h_ => ?_) (fun h_ => ?_)) <;> (try simp only [decide_eq_true_eq, decide_eq_false_iff_not, Bool.not_true, Bool.not_false, Bool.not_eq_true', Bool.not_eq_false', Bool.not_eq_eq_eq_not, Decidable.not_not] at h_) <;> (try simp only [r3_11, e3, e4, e10, m0, m1, m5, rd_of m0, rd_of m1, rd_of m5, vG, vC, vD, v_awake16, h_, go_sem, Int.reduceTMod, Int.reduceTDiv, Int.reduceDiv, Int.reduceMod, Int.reduceAdd, Int.reduceSub, Int.reduceMul, Int.reduceNeg, Int.reducePow, Int.reduceEq, ↓reduceIte, Nat.reduceEqDiff, Nat.reduceAdd, Nat.reduceMul, Nat.reduceLeDiff, Nat.reduceSub, Nat.reduceLT, Int.reduceToNat, Int.reduceLT, Int.reduceLE, reduceCtorEq]))
          · rw [hfr] at vG
            try simp only [r3_11, e3, e4, e10, m0, m1, m5, rd_of m0, rd_of m1, rd_of m5, vG, v_awake16, go_sem, Int.reduceTMod, Int.reduceTDiv, Int.reduceDiv, Int.reduceMod, Int.reduceAdd, Int.reduceSub, Int.reduceMul, Int.reduceNeg, Int.reducePow, Int.reduceEq, ↓reduceIte, Nat.reduceEqDiff, Nat.reduceAdd, Nat.reduceMul, Nat.reduceLeDiff, Nat.reduceSub, Nat.reduceLT, Int.reduceToNat, Int.reduceLT, Int.reduceLE, reduceCtorEq]
            repeat' ((first | refine FK_split (fun h_ => ?_) (fun h_ => ?_) | refine GK_split (fun h_ => ?_) (fun h_ => ?_) | refine ite_both (fun h_ => ?_) (fun h_ => ?_)) <;> (try simp only [decide_eq_true_eq, decide_eq_false_iff_not, Bool.not_true, Bool.not_false, Bool.not_eq_true', Bool.not_eq_false', Bool.not_eq_eq_eq_not, Decidable.not_not] at h_) <;> (try simp only [r3_11, e3, e4, e10, m0, m1, m5, rd_of m0, rd_of m1, rd_of m5, vG, v_awake16, h_, go_sem, Int.reduceTMod, Int.reduceTDiv, Int.reduceDiv, Int.reduceMod, Int.reduceAdd, Int.reduceSub, Int.reduceMul, Int.reduceNeg, Int.reducePow, Int.reduceEq, ↓reduceIte, Nat.reduceEqDiff, Nat.reduceAdd, Nat.reduceMul, Nat.reduceLeDiff, Nat.reduceSub, Nat.reduceLT, Int.reduceToNat, Int.reduceLT, Int.reduceLE, reduceCtorEq]))
        have z2' : (p.k = 2) = False := eq_false k2'
        try simp only [r3_6, r3_7, r3_10, e2, e3, e4, m0, m1, rd_of m0, rd_of m1, z2', w2, w3, w4, w5, w6, w7, go_sem, Int.reduceTMod, Int.reduceTDiv, Int.reduceDiv, Int.reduceMod, Int.reduceAdd, Int.reduceSub, Int.reduceMul, Int.reduceNeg, Int.reducePow, Int.reduceEq, ↓reduceIte, Nat.reduceEqDiff, Nat.reduceAdd, Nat.reduceMul, Nat.reduceLeDiff, Nat.reduceSub, Nat.reduceLT, Int.reduceToNat, Int.reduceLT, Int.reduceLE, reduceCtorEq]
        repeat' ((first | refine FK_split (fun h_ => ?_) (fun h_ => ?_) | refine GK_split (fun h_ => ?_) (fun h_ => ?_) | refine ite_both (fun h_ => ?_) (fun h_ => ?_)) <;> (try simp only [decide_eq_true_eq, decide_eq_false_iff_not, Bool.not_true, Bool.not_false, Bool.not_eq_true', Bool.not_eq_false', Bool.not_eq_eq_eq_not, Decidable.not_not] at h_) <;> (try simp only [r3_6, r3_7, r3_10, e2, e3, e4, m0, m1, rd_of m0, rd_of m1, z2', w2, w3, w4, w5, w6, w7, h_, go_sem, Int.reduceTMod, Int.reduceTDiv, Int.reduceDiv, Int.reduceMod, Int.reduceAdd, Int.reduceSub, Int.reduceMul, Int.reduceNeg, Int.reducePow, Int.reduceEq, ↓reduceIte, Nat.reduceEqDiff, Nat.reduceAdd, Nat.reduceMul, Nat.reduceLeDiff, Nat.reduceSub, Nat.reduceLT, Int.reduceToNat, Int.reduceLT, Int.reduceLE, reduceCtorEq]))
        refine body2 _ _ ?_ ?_ ?_ ?_ ?_ ?_ ?_
        · simp only [e3, go_sem, Int.reduceTMod, Int.reduceTDiv, Int.reduceDiv, Int.reduceMod, Int.reduceAdd, Int.reduceSub, Int.reduceMul, Int.reduceNeg, Int.reducePow, Int.reduceEq, ↓reduceIte, Nat.reduceEqDiff, Nat.reduceAdd, Nat.reduceMul, Nat.reduceLeDiff, Nat.reduceSub, Nat.reduceLT, Int.reduceToNat, Int.reduceLT, Int.reduceLE, reduceCtorEq]
        · simp only [e4, go_sem, Int.reduceTMod, Int.reduceTDiv, Int.reduceDiv, Int.reduceMod, Int.reduceAdd, Int.reduceSub, Int.reduceMul, Int.reduceNeg, Int.reducePow, Int.reduceEq, ↓reduceIte, Nat.reduceEqDiff, Nat.reduceAdd, Nat.reduceMul, Nat.reduceLeDiff, Nat.reduceSub, Nat.reduceLT, Int.reduceToNat, Int.reduceLT, Int.reduceLE, reduceCtorEq]
        · simp only [go_sem, Int.reduceTMod, Int.reduceTDiv, Int.reduceDiv, Int.reduceMod, Int.reduceAdd, Int.reduceSub, Int.reduceMul, Int.reduceNeg, Int.reducePow, Int.reduceEq, ↓reduceIte, Nat.reduceEqDiff, Nat.reduceAdd, Nat.reduceMul, Nat.reduceLeDiff, Nat.reduceSub, Nat.reduceLT, Int.reduceToNat, Int.reduceLT, Int.reduceLE, reduceCtorEq]
        · simp only [nadd, na_eq, m0, go_sem, Int.reduceTMod, Int.reduceTDiv, Int.reduceDiv, Int.reduceMod, Int.reduceAdd, Int.reduceSub, Int.reduceMul, Int.reduceNeg, Int.reducePow, Int.reduceEq, ↓reduceIte, Nat.reduceEqDiff, Nat.reduceAdd, Nat.reduceMul, Nat.reduceLeDiff, Nat.reduceSub, Nat.reduceLT, Int.reduceToNat, Int.reduceLT, Int.reduceLE, reduceCtorEq]
        · simp only [nadd, na_eq, m1, go_sem, Int.reduceTMod, Int.reduceTDiv, Int.reduceDiv, Int.reduceMod, Int.reduceAdd, Int.reduceSub, Int.reduceMul, Int.reduceNeg, Int.reducePow, Int.reduceEq, ↓reduceIte, Nat.reduceEqDiff, Nat.reduceAdd, Nat.reduceMul, Nat.reduceLeDiff, Nat.reduceSub, Nat.reduceLT, Int.reduceToNat, Int.reduceLT, Int.reduceLE, reduceCtorEq]
        · simp only [nadd, na_eq, go_sem, Int.reduceTMod, Int.reduceTDiv, Int.reduceDiv, Int.reduceMod, Int.reduceAdd, Int.reduceSub, Int.reduceMul, Int.reduceNeg, Int.reducePow, Int.reduceEq, ↓reduceIte, Nat.reduceEqDiff, Nat.reduceAdd, Nat.reduceMul, Nat.reduceLeDiff, Nat.reduceSub, Nat.reduceLT, Int.reduceToNat, Int.reduceLT, Int.reduceLE, reduceCtorEq]
        · intro j hj
          simp only [nadd, na_eq, na_0 (show j < n + 4 by omega), na_0 (show j < n + 5 by omega), go_sem, Int.reduceTMod, Int.reduceTDiv, Int.reduceDiv, Int.reduceMod, Int.reduceAdd, Int.reduceSub, Int.reduceMul, Int.reduceNeg, Int.reducePow, Int.reduceEq, ↓reduceIte, Nat.reduceEqDiff, Nat.reduceAdd, Nat.reduceMul, Nat.reduceLeDiff, Nat.reduceSub, Nat.reduceLT, Int.reduceToNat, Int.reduceLT, Int.reduceLE, reduceCtorEq]
          exact hold j hj
    have q0 : 0 < s0.a → CF = s0.co := fun h => col_from hn hk23 h0 h hCF
    have q1 : sL.a < 65536 → CT = sL.co := fun h => col_to hn hk23 S hL h hCT
    simp only [Pai.cs, hst] at vF vT
    by_cases ha : 0 < s0.a
    · obtain rfl := q0 ha
      simp only [Stp.co] at vF
      by_cases hb : sL.a < 65536
      · obtain rfl := q1 hb
        simp only [Stp.co] at vT
        try simp only [r3_4, r3_5, e2, e3, e4, e7, e8, m0, m1, m2, m3, rd_of m0, rd_of m1, rd_of m2, rd_of m3, hst, hlen', w1, z1, z2, z3, mi, r0c, rLc, vF, vT, ha, hb, Int.toNat_natCast, Int.toNat_zero, Nat.zero_mul, Nat.add_zero, go_sem, Int.reduceTMod, Int.reduceTDiv, Int.reduceDiv, Int.reduceMod, Int.reduceAdd, Int.reduceSub, Int.reduceMul, Int.reduceNeg, Int.reducePow, Int.reduceEq, ↓reduceIte, Nat.reduceEqDiff, Nat.reduceAdd, Nat.reduceMul, Nat.reduceLeDiff, Nat.reduceSub, Nat.reduceLT, Int.reduceToNat, Int.reduceLT, Int.reduceLE, reduceCtorEq]
        repeat' ((first | refine FK_split (fun h_ => ?_) (fun h_ => ?_) | refine GK_split (fun h_ => ?_) (fun h_ => ?_) | refine ite_both (fun h_ => ?_) (fun h_ => ?_)) <;> (try simp only [decide_eq_true_eq, decide_eq_false_iff_not, Bool.not_true, Bool.not_false, Bool.not_eq_true', Bool.not_eq_false', Bool.not_eq_eq_eq_not, Decidable.not_not] at h_) <;> (try simp only [r3_4, r3_5, e2, e3, e4, e7, e8, m0, m1, m2, m3, rd_of m0, rd_of m1, rd_of m2, rd_of m3, hst, hlen', w1, z1, z2, z3, mi, r0c, rLc, vF, vT, ha, hb, Int.toNat_natCast, Int.toNat_zero, Nat.zero_mul, Nat.add_zero, h_, go_sem, Int.reduceTMod, Int.reduceTDiv, Int.reduceDiv, Int.reduceMod, Int.reduceAdd, Int.reduceSub, Int.reduceMul, Int.reduceNeg, Int.reducePow, Int.reduceEq, ↓reduceIte, Nat.reduceEqDiff, Nat.reduceAdd, Nat.reduceMul, Nat.reduceLeDiff, Nat.reduceSub, Nat.reduceLT, Int.reduceToNat, Int.reduceLT, Int.reduceLE, reduceCtorEq]))
        refine fin _ ?_ ?_ ?_
        · simp only [e2, go_sem, Int.reduceTMod, Int.reduceTDiv, Int.reduceDiv, Int.reduceMod, Int.reduceAdd, Int.reduceSub, Int.reduceMul, Int.reduceNeg, Int.reducePow, Int.reduceEq, ↓reduceIte, Nat.reduceEqDiff, Nat.reduceAdd, Nat.reduceMul, Nat.reduceLeDiff, Nat.reduceSub, Nat.reduceLT, Int.reduceToNat, Int.reduceLT, Int.reduceLE, reduceCtorEq]
        · simp only [e3, go_sem, Int.reduceTMod, Int.reduceTDiv, Int.reduceDiv, Int.reduceMod, Int.reduceAdd, Int.reduceSub, Int.reduceMul, Int.reduceNeg, Int.reducePow, Int.reduceEq, ↓reduceIte, Nat.reduceEqDiff, Nat.reduceAdd, Nat.reduceMul, Nat.reduceLeDiff, Nat.reduceSub, Nat.reduceLT, Int.reduceToNat, Int.reduceLT, Int.reduceLE, reduceCtorEq]
        · simp only [e4, go_sem, Int.reduceTMod, Int.reduceTDiv, Int.reduceDiv, Int.reduceMod, Int.reduceAdd, Int.reduceSub, Int.reduceMul, Int.reduceNeg, Int.reducePow, Int.reduceEq, ↓reduceIte, Nat.reduceEqDiff, Nat.reduceAdd, Nat.reduceMul, Nat.reduceLeDiff, Nat.reduceSub, Nat.reduceLT, Int.reduceToNat, Int.reduceLT, Int.reduceLE, reduceCtorEq]
      · skip
        try simp only [r3_4, r3_5, e2, e3, e4, e7, e8, m0, m1, m2, m3, rd_of m0, rd_of m1, rd_of m2, rd_of m3, hst, hlen', w1, z1, z2, z3, mi, r0c, rLc, vF, vT, ha, hb, Int.toNat_natCast, Int.toNat_zero, Nat.zero_mul, Nat.add_zero, go_sem, Int.reduceTMod, Int.reduceTDiv, Int.reduceDiv, Int.reduceMod, Int.reduceAdd, Int.reduceSub, Int.reduceMul, Int.reduceNeg, Int.reducePow, Int.reduceEq, ↓reduceIte, Nat.reduceEqDiff, Nat.reduceAdd, Nat.reduceMul, Nat.reduceLeDiff, Nat.reduceSub, Nat.reduceLT, Int.reduceToNat, Int.reduceLT, Int.reduceLE, reduceCtorEq]
        repeat' ((first | refine FK_split (fun h_ => ?_) (fun h_ => ?_) | refine GK_split (fun h_ => ?_) (fun h_ => ?_) | refine ite_both (fun h_ => ?_) (fun h_ => ?_)) <;> (try simp only [decide_eq_true_eq, decide_eq_false_iff_not, Bool.not_true, Bool.not_false, Bool.not_eq_true', Bool.not_eq_false', Bool.not_eq_eq_eq_not, Decidable.not_not] at h_) <;> (try simp only [r3_4, r3_5, e2, e3, e4, e7, e8, m0, m1, m2, m3, rd_of m0, rd_of m1, rd_of m2, rd_of m3, hst, hlen', w1, z1, z2, z3, mi, r0c, rLc, vF, vT, ha, hb, Int.toNat_natCast, Int.toNat_zero, Nat.zero_mul, Nat.add_zero, h_, go_sem, Int.reduceTMod, Int.reduceTDiv, Int.reduceDiv, Int.reduceMod, Int.reduceAdd, Int.reduceSub, Int.reduceMul, Int.reduceNeg, Int.reducePow, Int.reduceEq, ↓reduceIte, Nat.reduceEqDiff, Nat.reduceAdd, Nat.reduceMul, Nat.reduceLeDiff, Nat.reduceSub, Nat.reduceLT, Int.reduceToNat, Int.reduceLT, Int.reduceLE, reduceCtorEq]))
        refine fin _ ?_ ?_ ?_
        · simp only [e2, go_sem, Int.reduceTMod, Int.reduceTDiv, Int.reduceDiv, Int.reduceMod, Int.reduceAdd, Int.reduceSub, Int.reduceMul, Int.reduceNeg, Int.reducePow, Int.reduceEq, ↓reduceIte, Nat.reduceEqDiff, Nat.reduceAdd, Nat.reduceMul, Nat.reduceLeDiff, Nat.reduceSub, Nat.reduceLT, Int.reduceToNat, Int.reduceLT, Int.reduceLE, reduceCtorEq]
        · simp only [e3, go_sem, Int.reduceTMod, Int.reduceTDiv, Int.reduceDiv, Int.reduceMod, Int.reduceAdd, Int.reduceSub, Int.reduceMul, Int.reduceNeg, Int.reducePow, Int.reduceEq, ↓reduceIte, Nat.reduceEqDiff, Nat.reduceAdd, Nat.reduceMul, Nat.reduceLeDiff, Nat.reduceSub, Nat.reduceLT, Int.reduceToNat, Int.reduceLT, Int.reduceLE, reduceCtorEq]
        · simp only [e4, go_sem, Int.reduceTMod, Int.reduceTDiv, Int.reduceDiv, Int.reduceMod, Int.reduceAdd, Int.reduceSub, Int.reduceMul, Int.reduceNeg, Int.reducePow, Int.reduceEq, ↓reduceIte, Nat.reduceEqDiff, Nat.reduceAdd, Nat.reduceMul, Nat.reduceLeDiff, Nat.reduceSub, Nat.reduceLT, Int.reduceToNat, Int.reduceLT, Int.reduceLE, reduceCtorEq]
    · by_cases hb : sL.a < 65536
      · obtain rfl := q1 hb
        simp only [Stp.co] at vT
        try simp only [r3_4, r3_5, e2, e3, e4, e7, e8, m0, m1, m2, m3, rd_of m0, rd_of m1, rd_of m2, rd_of m3, hst, hlen', w1, z1, z2, z3, mi, r0c, rLc, vF, vT, ha, hb, Int.toNat_natCast, Int.toNat_zero, Nat.zero_mul, Nat.add_zero, go_sem, Int.reduceTMod, Int.reduceTDiv, Int.reduceDiv, Int.reduceMod, Int.reduceAdd, Int.reduceSub, Int.reduceMul, Int.reduceNeg, Int.reducePow, Int.reduceEq, ↓reduceIte, Nat.reduceEqDiff, Nat.reduceAdd, Nat.reduceMul, Nat.reduceLeDiff, Nat.reduceSub, Nat.reduceLT, Int.reduceToNat, Int.reduceLT, Int.reduceLE, reduceCtorEq]
        repeat' ((first | refine FK_split (fun h_ => ?_) (fun h_ => ?_) | refine GK_split (fun h_ => ?_) (fun h_ => ?_) | refine ite_both (fun h_ => ?_) (fun h_ => ?_)) <;> (try simp only [decide_eq_true_eq, decide_eq_false_iff_not, Bool.not_true, Bool.not_false, Bool.not_eq_true', Bool.not_eq_false', Bool.not_eq_eq_eq_not, Decidable.not_not] at h_) <;> (try simp only [r3_4, r3_5, e2, e3, e4, e7, e8, m0, m1, m2, m3, rd_of m0, rd_of m1, rd_of m2, rd_of m3, hst, hlen', w1, z1, z2, z3, mi, r0c, rLc, vF, vT, ha, hb, Int.toNat_natCast, Int.toNat_zero, Nat.zero_mul, Nat.add_zero, h_, go_sem, Int.reduceTMod, Int.reduceTDiv, Int.reduceDiv, Int.reduceMod, Int.reduceAdd, Int.reduceSub, Int.reduceMul, Int.reduceNeg, Int.reducePow, Int.reduceEq, ↓reduceIte, Nat.reduceEqDiff, Nat.reduceAdd, Nat.reduceMul, Nat.reduceLeDiff, Nat.reduceSub, Nat.reduceLT, Int.reduceToNat, Int.reduceLT, Int.reduceLE, reduceCtorEq]))
        refine fin _ ?_ ?_ ?_
        · simp only [e2, go_sem, Int.reduceTMod, Int.reduceTDiv, Int.reduceDiv, Int.reduceMod, Int.reduceAdd, Int.reduceSub, Int.reduceMul, Int.reduceNeg, Int.reducePow, Int.reduceEq, ↓reduceIte, Nat.reduceEqDiff, Nat.reduceAdd, Nat.reduceMul, Nat.reduceLeDiff, Nat.reduceSub, Nat.reduceLT, Int.reduceToNat, Int.reduceLT, Int.reduceLE, reduceCtorEq]
        · simp only [e3, go_sem, Int.reduceTMod, Int.reduceTDiv, Int.reduceDiv, Int.reduceMod, Int.reduceAdd, Int.reduceSub, Int.reduceMul, Int.reduceNeg, Int.reducePow, Int.reduceEq, ↓reduceIte, Nat.reduceEqDiff, Nat.reduceAdd, Nat.reduceMul, Nat.reduceLeDiff, Nat.reduceSub, Nat.reduceLT, Int.reduceToNat, Int.reduceLT, Int.reduceLE, reduceCtorEq]
        · simp only [e4, go_sem, Int.reduceTMod, Int.reduceTDiv, Int.reduceDiv, Int.reduceMod, Int.reduceAdd, Int.reduceSub, Int.reduceMul, Int.reduceNeg, Int.reducePow, Int.reduceEq, ↓reduceIte, Nat.reduceEqDiff, Nat.reduceAdd, Nat.reduceMul, Nat.reduceLeDiff, Nat.reduceSub, Nat.reduceLT, Int.reduceToNat, Int.reduceLT, Int.reduceLE, reduceCtorEq]
      · skip
        try simp only [r3_4, r3_5, e2, e3, e4, e7, e8, m0, m1, m2, m3, rd_of m0, rd_of m1, rd_of m2, rd_of m3, hst, hlen', w1, z1, z2, z3, mi, r0c, rLc, vF, vT, ha, hb, Int.toNat_natCast, Int.toNat_zero, Nat.zero_mul, Nat.add_zero, go_sem, Int.reduceTMod, Int.reduceTDiv, Int.reduceDiv, Int.reduceMod, Int.reduceAdd, Int.reduceSub, Int.reduceMul, Int.reduceNeg, Int.reducePow, Int.reduceEq, ↓reduceIte, Nat.reduceEqDiff, Nat.reduceAdd, Nat.reduceMul, Nat.reduceLeDiff, Nat.reduceSub, Nat.reduceLT, Int.reduceToNat, Int.reduceLT, Int.reduceLE, reduceCtorEq]
        repeat' ((first | refine FK_split (fun h_ => ?_) (fun h_ => ?_) | refine GK_split (fun h_ => ?_) (fun h_ => ?_) | refine ite_both (fun h_ => ?_) (fun h_ => ?_)) <;> (try simp only [decide_eq_true_eq, decide_eq_false_iff_not, Bool.not_true, Bool.not_false, Bool.not_eq_true', Bool.not_eq_false', Bool.not_eq_eq_eq_not, Decidable.not_not] at h_) <;> (try simp only [r3_4, r3_5, e2, e3, e4, e7, e8, m0, m1, m2, m3, rd_of m0, rd_of m1, rd_of m2, rd_of m3, hst, hlen', w1, z1, z2, z3, mi, r0c, rLc, vF, vT, ha, hb, Int.toNat_natCast, Int.toNat_zero, Nat.zero_mul, Nat.add_zero, h_, go_sem, Int.reduceTMod, Int.reduceTDiv, Int.reduceDiv, Int.reduceMod, Int.reduceAdd, Int.reduceSub, Int.reduceMul, Int.reduceNeg, Int.reducePow, Int.reduceEq, ↓reduceIte, Nat.reduceEqDiff, Nat.reduceAdd, Nat.reduceMul, Nat.reduceLeDiff, Nat.reduceSub, Nat.reduceLT, Int.reduceToNat, Int.reduceLT, Int.reduceLE, reduceCtorEq]))
        refine fin _ ?_ ?_ ?_
        · simp only [e2, go_sem, Int.reduceTMod, Int.reduceTDiv, Int.reduceDiv, Int.reduceMod, Int.reduceAdd, Int.reduceSub, Int.reduceMul, Int.reduceNeg, Int.reducePow, Int.reduceEq, ↓reduceIte, Nat.reduceEqDiff, Nat.reduceAdd, Nat.reduceMul, Nat.reduceLeDiff, Nat.reduceSub, Nat.reduceLT, Int.reduceToNat, Int.reduceLT, Int.reduceLE, reduceCtorEq]
        · simp only [e3, go_sem, Int.reduceTMod, Int.reduceTDiv, Int.reduceDiv, Int.reduceMod, Int.reduceAdd, Int.reduceSub, Int.reduceMul, Int.reduceNeg, Int.reducePow, Int.reduceEq, ↓reduceIte, Nat.reduceEqDiff, Nat.reduceAdd, Nat.reduceMul, Nat.reduceLeDiff, Nat.reduceSub, Nat.reduceLT, Int.reduceToNat, Int.reduceLT, Int.reduceLE, reduceCtorEq]
        · simp only [e4, go_sem, Int.reduceTMod, Int.reduceTDiv, Int.reduceDiv, Int.reduceMod, Int.reduceAdd, Int.reduceSub, Int.reduceMul, Int.reduceNeg, Int.reducePow, Int.reduceEq, ↓reduceIte, Nat.reduceEqDiff, Nat.reduceAdd, Nat.reduceMul, Nat.reduceLeDiff, Nat.reduceSub, Nat.reduceLT, Int.reduceToNat, Int.reduceLT, Int.reduceLE, reduceCtorEq]
  have vR2 : callF TA 7 [.agg [I p.k, U8 p.c0, U8 p.c1, U8 p.c2, U8 p.c3, I p.fx, I p.fy, I p.tx, I p.ty, .sl id off l.length cap 5]] (frz (upd (upd m n (some ⟨p.cs, true⟩)) (n + 1) (some ⟨[I x, I y], true⟩))) (n + 2) = some (RI (rightV p l)) := by
    rw [← hst]
    exact vR
  try simp only [F3, c3, r3_0, r3_1, r3_3, XK_ureg, hlen, g, vR2, hR, k2, vF, ka, kb, hst, hlen', w1, z1, z2, z3, n0, n1, n2, n3, r0b, r0d, rLd, Int.toNat_natCast, Int.toNat_zero, Nat.zero_mul, Nat.add_zero, go_sem, Int.reduceTMod, Int.reduceTDiv, Int.reduceDiv, Int.reduceMod, Int.reduceAdd, Int.reduceSub, Int.reduceMul, Int.reduceNeg, Int.reducePow, Int.reduceEq, ↓reduceIte, Nat.reduceEqDiff, Nat.reduceAdd, Nat.reduceMul, Nat.reduceLeDiff, Nat.reduceSub, Nat.reduceLT, Int.reduceToNat, Int.reduceLT, Int.reduceLE, reduceCtorEq]
  repeat' ((first | refine FK_split (fun h_ => ?_) (fun h_ => ?_) | refine GK_split (fun h_ => ?_) (fun h_ => ?_) | refine ite_both (fun h_ => ?_) (fun h_ => ?_)) <;> (try simp only [decide_eq_true_eq, decide_eq_false_iff_not, Bool.not_true, Bool.not_false, Bool.not_eq_true', Bool.not_eq_false', Bool.not_eq_eq_eq_not, Decidable.not_not] at h_) <;> (try simp only [F3, c3, r3_0, r3_1, r3_3, XK_ureg, hlen, g, vR2, hR, k2, vF, ka, kb, hst, hlen', w1, z1, z2, z3, n0, n1, n2, n3, r0b, r0d, rLd, Int.toNat_natCast, Int.toNat_zero, Nat.zero_mul, Nat.add_zero, h_, go_sem, Int.reduceTMod, Int.reduceTDiv, Int.reduceDiv, Int.reduceMod, Int.reduceAdd, Int.reduceSub, Int.reduceMul, Int.reduceNeg, Int.reducePow, Int.reduceEq, ↓reduceIte, Nat.reduceEqDiff, Nat.reduceAdd, Nat.reduceMul, Nat.reduceLeDiff, Nat.reduceSub, Nat.reduceLT, Int.reduceToNat, Int.reduceLT, Int.reduceLE, reduceCtorEq]))
  refine body _ _ ?_ ?_ ?_ ?_ ?_ ?_ ?_ ?_ ?_ ?_
  · simp only [go_sem, Int.reduceTMod, Int.reduceTDiv, Int.reduceDiv, Int.reduceMod, Int.reduceAdd, Int.reduceSub, Int.reduceMul, Int.reduceNeg, Int.reducePow, Int.reduceEq, ↓reduceIte, Nat.reduceEqDiff, Nat.reduceAdd, Nat.reduceMul, Nat.reduceLeDiff, Nat.reduceSub, Nat.reduceLT, Int.reduceToNat, Int.reduceLT, Int.reduceLE, reduceCtorEq]
  · simp only [go_sem, Int.reduceTMod, Int.reduceTDiv, Int.reduceDiv, Int.reduceMod, Int.reduceAdd, Int.reduceSub, Int.reduceMul, Int.reduceNeg, Int.reducePow, Int.reduceEq, ↓reduceIte, Nat.reduceEqDiff, Nat.reduceAdd, Nat.reduceMul, Nat.reduceLeDiff, Nat.reduceSub, Nat.reduceLT, Int.reduceToNat, Int.reduceLT, Int.reduceLE, reduceCtorEq]
  · simp only [go_sem, Int.reduceTMod, Int.reduceTDiv, Int.reduceDiv, Int.reduceMod, Int.reduceAdd, Int.reduceSub, Int.reduceMul, Int.reduceNeg, Int.reducePow, Int.reduceEq, ↓reduceIte, Nat.reduceEqDiff, Nat.reduceAdd, Nat.reduceMul, Nat.reduceLeDiff, Nat.reduceSub, Nat.reduceLT, Int.reduceToNat, Int.reduceLT, Int.reduceLE, reduceCtorEq]
  · simp only [go_sem, Int.reduceTMod, Int.reduceTDiv, Int.reduceDiv, Int.reduceMod, Int.reduceAdd, Int.reduceSub, Int.reduceMul, Int.reduceNeg, Int.reducePow, Int.reduceEq, ↓reduceIte, Nat.reduceEqDiff, Nat.reduceAdd, Nat.reduceMul, Nat.reduceLeDiff, Nat.reduceSub, Nat.reduceLT, Int.reduceToNat, Int.reduceLT, Int.reduceLE, reduceCtorEq]
  · simp only [go_sem, Int.reduceTMod, Int.reduceTDiv, Int.reduceDiv, Int.reduceMod, Int.reduceAdd, Int.reduceSub, Int.reduceMul, Int.reduceNeg, Int.reducePow, Int.reduceEq, ↓reduceIte, Nat.reduceEqDiff, Nat.reduceAdd, Nat.reduceMul, Nat.reduceLeDiff, Nat.reduceSub, Nat.reduceLT, Int.reduceToNat, Int.reduceLT, Int.reduceLE, reduceCtorEq]
  · simp only [nadd, na_eq, go_sem, Int.reduceTMod, Int.reduceTDiv, Int.reduceDiv, Int.reduceMod, Int.reduceAdd, Int.reduceSub, Int.reduceMul, Int.reduceNeg, Int.reducePow, Int.reduceEq, ↓reduceIte, Nat.reduceEqDiff, Nat.reduceAdd, Nat.reduceMul, Nat.reduceLeDiff, Nat.reduceSub, Nat.reduceLT, Int.reduceToNat, Int.reduceLT, Int.reduceLE, reduceCtorEq]
  · simp only [nadd, na_eq, go_sem, Int.reduceTMod, Int.reduceTDiv, Int.reduceDiv, Int.reduceMod, Int.reduceAdd, Int.reduceSub, Int.reduceMul, Int.reduceNeg, Int.reducePow, Int.reduceEq, ↓reduceIte, Nat.reduceEqDiff, Nat.reduceAdd, Nat.reduceMul, Nat.reduceLeDiff, Nat.reduceSub, Nat.reduceLT, Int.reduceToNat, Int.reduceLT, Int.reduceLE, reduceCtorEq]
  · simp only [nadd, na_eq, go_sem, Int.reduceTMod, Int.reduceTDiv, Int.reduceDiv, Int.reduceMod, Int.reduceAdd, Int.reduceSub, Int.reduceMul, Int.reduceNeg, Int.reducePow, Int.reduceEq, ↓reduceIte, Nat.reduceEqDiff, Nat.reduceAdd, Nat.reduceMul, Nat.reduceLeDiff, Nat.reduceSub, Nat.reduceLT, Int.reduceToNat, Int.reduceLT, Int.reduceLE, reduceCtorEq]
  · simp only [nadd, na_eq, go_sem, Int.reduceTMod, Int.reduceTDiv, Int.reduceDiv, Int.reduceMod, Int.reduceAdd, Int.reduceSub, Int.reduceMul, Int.reduceNeg, Int.reducePow, Int.reduceEq, ↓reduceIte, Nat.reduceEqDiff, Nat.reduceAdd, Nat.reduceMul, Nat.reduceLeDiff, Nat.reduceSub, Nat.reduceLT, Int.reduceToNat, Int.reduceLT, Int.reduceLE, reduceCtorEq]
  · intro j hj
    simp only [nadd, na_eq, na_0 hj, na_0 (show j < n + 1 by omega), na_0 (show j < n + 2 by omega), na_0 (show j < n + 3 by omega), go_sem, Int.reduceTMod, Int.reduceTDiv, Int.reduceDiv, Int.reduceMod, Int.reduceAdd, Int.reduceSub, Int.reduceMul, Int.reduceNeg, Int.reducePow, Int.reduceEq, ↓reduceIte, Nat.reduceEqDiff, Nat.reduceAdd, Nat.reduceMul, Nat.reduceLeDiff, Nat.reduceSub, Nat.reduceLT, Int.reduceToNat, Int.reduceLT, Int.reduceLE, reduceCtorEq]

/- The row StyleShades. Conditions: those that each theorem names. -/
open Go Go.Proofs
open Go.RowKit Go.ChangeShapes Go.WideShapes Go.Deep
set_option linter.unusedVariables false

theorem rowL3 (hmix : Try.prog.follows .mixedOrders = true) (W : World) (v : Value) (h : isPai W v) (l0 : List Value) (h0 : CksOk [.int .i64, .int .i64] l0) (k : Int) (hk : IntKind.i64.min ≤ k ∧ k ≤ IntKind.i64.max) :
    Calls Try.prog 3 #[v, .agg l0.toArray, .int .i64 k] W (fun e w' => e = .returned (.bool true) ∧ Go.RowKit.Below W.heap.size W w') := by
  obtain ⟨p, l, ρ, m, hm, hh, hr, hp, hb, hrel⟩ := pai_lay h
  simp only [CksOk] at h0
  obtain ⟨x, _, rfl, _, y, _, rfl, _, rfl⟩ := h0
  exact law_calls (ng := 0) (ρ := ρ) (n := 1) hmix TA_ok (law3 (x := x) (y := y) (k := k) hr hp hb) hm (fun _ h => by omega) ⟨_, _, rfl, hrel, _, _, rfl, ⟨_, rfl, _, _, rfl, ⟨rfl, rfl⟩, _, _, rfl, ⟨rfl, rfl⟩, rfl⟩, _, _, rfl, ⟨rfl, rfl⟩, rfl⟩ hh

end Go.Proofs.Ytffhhgcgnillaaa.Sy
