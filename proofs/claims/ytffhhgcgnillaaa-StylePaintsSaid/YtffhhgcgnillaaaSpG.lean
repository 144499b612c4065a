/- The reference's shades walked; a paint's colour. Conditions: those that each theorem names. -/
import Derived.Test.YtffhhgcgnillaaaSpF
namespace Go.Proofs.Ytffhhgcgnillaaa.Sy
open Go Go.Proofs
set_option linter.unusedSimpArgs false
set_option linter.unusedVariables false
set_option maxRecDepth 20000
attribute [local go_sem] XK_seq XK_block XK_skip XK_exit XK_ret XK_cond XK_reg XK_dreg XK_ureg KN_seq KN_blk KN_lp KN_chk KN_chku KN_top KN_fin KX_seq KX_lp KX_blk KX_chk KX_top KR_seq KR_blk KR_lp KR_chk KR_top KR_fin FK_true FK_false RK_nil RK_mv RK_pick RK_alloc RK_box RK_build RK_bslice RK_load1 RK_loadA RK_store RK_nilchk RK_bin RK_beq RK_eqv RK_eqnil RK_un RK_conv RK_mkfn RK_mkslice RK_slS RK_slA RK_fadr RK_fld RK_iadrA RK_iadrS RK_idxA RK_istr RK_ext RK_lenC RK_cap RK_app RK_appz RK_pre RK_cpy RK_mn RK_mx RK_len RK_carry RK_clr carryR um0 um1 ThenK_some RK_guard GK_tt GK_ff GK_tf GK_ft GK_none QK_some RK_callQ RK_callZ RK_callT TK_some VK_clo RK_callV
  evalOp evO evOs upd_at unfrz_at putE_some putE_none boolOf_b boolOf_tup Option.map_some evRes pack_one pack_two pack_three pack_none List.getD_cons_zero List.getD_cons_succ getD_nil
  Option.some.injEq exists_eq_left' Reg.cs? fillC setL List.set_cons_zero List.set_cons_succ List.length_cons List.length_nil rd_upd rd_updn rdB wr List.drop_zero List.drop_succ_cons List.take_succ_cons List.take_zero List.getElem?_cons_zero List.getElem?_cons_succ
  ix Int.toNat_zero lenO_sl lenO_nil nadd na_eq na_eq' na_lt na_ee na_ll na_ne na_ne' na_tt
attribute [local go_sem] Reg.flat_one Reg.flat_agg Reg.flat_tup flats_nil flats_cons Cell.flat_sc Cell.flat_ptr List.all_cons List.all_nil disOk safeOk safeR decide_eq_true_eq decide_eq_false_iff_not
  List.map_cons List.map_nil List.cons_append List.nil_append List.append_nil evalOp.capsOf Bool.false_bne Bool.bne_false Bool.true_bne Bool.bne_true bne_self_eq_false beq_self_eq_true Bool.not_not Bool.false_and Bool.and_false Bool.true_or Bool.or_true beq_iff_eq eqCells
  Bool.true_beq Bool.false_beq Bool.not_eq_true' Bool.not_eq_eq_eq_not Bool.not_eq_false' and_false false_and frz_at idOf noId Option.isSome_some Bool.and_eq_true
attribute [local go_sem] wr_eq bV_add bV_sub bV_mul bV_eql bV_neq bV_lss bV_leq bV_gtr bV_geq bV_quo bV_rem bV_shr bV_shl uV_not uV_neg wrapU bits_and bits_or bits_xor IntKind.bits Nat.min_eq_left Nat.min_eq_right Nat.min_self
attribute [local go_sem] bne_iff_ne Int.cast_ofNat_Int Nat.zero_add Nat.add_zero and_self and_true true_and ne_eq not_false_eq_true not_true_eq_false decide_true decide_false Bool.false_eq_true Bool.not_true Bool.not_false Bool.true_and Bool.and_true Bool.or_false Bool.false_or Bool.and_self

theorem at_ri {m : Mem} {n : Nat} {r : Reg} {l : List Stp} {i : Nat} {s : Stp} (h : RRi m n r l) (hs : l[i]? = some s) :
    ∃ id off cap b, r = .one (.sl id off l.length cap 5) ∧ id < n ∧ rd m id (off + i * 5) 5 = some s.ri ∧ m id = some b ∧ b.cells[off + i * 5]? = some (I s.a) ∧ rd m id (off + (i * 5 + 1)) 4 = some [I s.c0, I s.c1, I s.c2, I s.c3] := by
  obtain ⟨id, off, cap, h1, h2, h3⟩ := h.at ri5 hs
  obtain ⟨b, h4, h5⟩ := rd_cell h3 (a := 0) (c := I s.a) rfl
  have h6 := rd_sub (a := 1) (q := 4) h3 (by omega)
  rw [Nat.add_assoc] at h6
  exact ⟨id, off, cap, b, h1, h2, h3, h4, by rwa [Nat.add_zero] at h5, h6⟩
set_option maxHeartbeats 2000000 in
theorem v_rShade {r : Reg} {l : List Stp} {t : Int} {m : Mem} {n : Nat} (hr : RRi m n r l) (hR : stopsB l = true) (hby : ∀ s ∈ l, s.by) : ∃ C, IsShade l t C ∧ callF TA 14 [r, RI t] m n = some C.i := by
  have S := stopsR hR
  have hl16 := S.len
  have hpos := S.pos
  obtain ⟨s0, h0⟩ : ∃ s, l[0]? = some s := ⟨l[0], List.getElem?_eq_getElem hpos⟩
  obtain ⟨sL, hL⟩ : ∃ s, l[l.length - 1]? = some s := ⟨l[l.length - 1], List.getElem?_eq_getElem (by omega)⟩
  obtain ⟨id, off, cap, b, rfl, hid, r0, r0b, r0c, r0d⟩ := at_ri hr h0
  obtain ⟨id', off', cap', b', e, _, rL, rLb, rLc, rLd⟩ := at_ri hr hL
  injection e with e
  injection e with e1 e2 e3 e4
  subst e1
  subst e2
  have n0 := na_0 hid
  have n1 := na_0 (show id < n + 1 by omega)
  rw [Nat.zero_mul, Nat.add_zero] at r0c
  rw [Nat.zero_mul, Nat.zero_add] at r0d
  have hlen := hr.len
  have w1 : IntKind.i64.wrap ((l.length : Int) - 1) = ((l.length - 1 : Nat) : Int) := (wr_eq (by omega) (by omega)).trans (by omega)
  have c1 : ((0 : Int) < (l.length : Int)) = True := eq_true (by omega)
  have c2 : (((l.length - 1 : Nat) : Int) < (l.length : Int)) = True := eq_true (by omega)
  have c3 : (0 ≤ ((l.length - 1 : Nat) : Int)) = True := eq_true (by omega)
  by_cases hA : t ≤ s0.a
  · refine ⟨s0.co, Or.inl ⟨s0, h0, hA, rfl⟩, callF_of (Fn_ofK (fn := F14) rfl (by simp [F14]) ?_)⟩
    try simp only [r14_0, r14_1, r14_2, r14_3, r14_4, r14_6, r14_7, r14_5, r14_8, c14, F14, hlen, w1, c1, c2, c3, n0, n1, r0b, r0c, r0d, hA, Int.toNat_natCast, Int.toNat_zero, Nat.zero_mul, Nat.add_zero, Stp.co, go_sem, Int.reduceTMod, Int.reduceTDiv, Int.reduceDiv, Int.reduceMod, Int.reduceAdd, Int.reduceSub, Int.reduceMul, Int.reduceNeg, Int.reducePow, Int.reduceEq, ↓reduceIte, Nat.reduceEqDiff, Nat.reduceAdd, Nat.reduceMul, Nat.reduceLeDiff, Nat.reduceSub, Nat.reduceLT, Int.reduceToNat, Int.reduceLT, Int.reduceLE, reduceCtorEq]
    repeat' ((first | refine FK_split (fun h_ => ?_) (fun h_ => ?_) | refine GK_split (fun h_ => ?_) (fun h_ => ?_) | refine ite_both (fun h_ => ?_) (fun h_ => ?_)) <;> (try simp only [decide_eq_true_eq, decide_eq_false_iff_not, Bool.not_true, Bool.not_false, Bool.not_eq_true', Bool.not_eq_false', Bool.not_eq_eq_eq_not, Decidable.not_not] at h_) <;> (try simp only [r14_0, r14_1, r14_2, r14_3, r14_4, r14_6, r14_7, r14_5, r14_8, c14, F14, hlen, w1, c1, c2, c3, n0, n1, r0b, r0c, r0d, hA, Int.toNat_natCast, Int.toNat_zero, Nat.zero_mul, Nat.add_zero, Stp.co, h_, go_sem, Int.reduceTMod, Int.reduceTDiv, Int.reduceDiv, Int.reduceMod, Int.reduceAdd, Int.reduceSub, Int.reduceMul, Int.reduceNeg, Int.reducePow, Int.reduceEq, ↓reduceIte, Nat.reduceEqDiff, Nat.reduceAdd, Nat.reduceMul, Nat.reduceLeDiff, Nat.reduceSub, Nat.reduceLT, Int.reduceToNat, Int.reduceLT, Int.reduceLE, reduceCtorEq]))
  have hlt0 : ∀ u, l[0]? = some u → u.a < t := fun u hu => by rw [h0] at hu; cases hu; omega
  have hF : Fn TA 14 [.one (.sl id off l.length cap 5), RI t] m n (fun r' _ _ => ∃ C : Co, r' = C.i ∧ IsShade l t C) := by
    refine Fn_ofK (fn := F14) rfl (by simp [F14]) ?_
    try simp only [r14_0, r14_1, r14_2, r14_3, r14_4, r14_6, r14_7, r14_5, r14_8, c14, F14, hlen, c1, n0, n1, r0b, r0c, r0d, hA, Int.toNat_zero, Nat.zero_mul, Nat.add_zero, go_sem, Int.reduceTMod, Int.reduceTDiv, Int.reduceDiv, Int.reduceMod, Int.reduceAdd, Int.reduceSub, Int.reduceMul, Int.reduceNeg, Int.reducePow, Int.reduceEq, ↓reduceIte, Nat.reduceEqDiff, Nat.reduceAdd, Nat.reduceMul, Nat.reduceLeDiff, Nat.reduceSub, Nat.reduceLT, Int.reduceToNat, Int.reduceLT, Int.reduceLE, reduceCtorEq]
    repeat' ((first | refine FK_split (fun h_ => ?_) (fun h_ => ?_) | refine GK_split (fun h_ => ?_) (fun h_ => ?_) | refine ite_both (fun h_ => ?_) (fun h_ => ?_)) <;> (try simp only [decide_eq_true_eq, decide_eq_false_iff_not, Bool.not_true, Bool.not_false, Bool.not_eq_true', Bool.not_eq_false', Bool.not_eq_eq_eq_not, Decidable.not_not] at h_) <;> (try simp only [r14_0, r14_1, r14_2, r14_3, r14_4, r14_6, r14_7, r14_5, r14_8, c14, F14, hlen, c1, n0, n1, r0b, r0c, r0d, hA, Int.toNat_zero, Nat.zero_mul, Nat.add_zero, h_, go_sem, Int.reduceTMod, Int.reduceTDiv, Int.reduceDiv, Int.reduceMod, Int.reduceAdd, Int.reduceSub, Int.reduceMul, Int.reduceNeg, Int.reducePow, Int.reduceEq, ↓reduceIte, Nat.reduceEqDiff, Nat.reduceAdd, Nat.reduceMul, Nat.reduceLeDiff, Nat.reduceSub, Nat.reduceLT, Int.reduceToNat, Int.reduceLT, Int.reduceLE, reduceCtorEq]))
    refine XK_iter (inv := fun i s => 1 ≤ i ∧ s.e 5 = RI i ∧ s.e 0 = .one (.sl id off l.length cap 5) ∧ s.e 1 = RI t ∧ s.e 4 = .one (.ptr n 0) ∧ s.n = n + 1 ∧ (∀ j, j < n → s.m j = m j) ∧ s.m n = some ⟨[I 0, I 0, I 0, I 0], true⟩ ∧ ∀ (j : Nat) (u : Stp), j < i → l[j]? = some u → u.a ≤ t) l.length
      (fun L _ => ⟨fun i hi s hs next => ?_, fun s hs => ?_⟩) 1 (by omega) _ ⟨?_, ?_, ?_, ?_, ?_, ?_, ?_, ?_, ?_⟩
    · obtain ⟨e, M, N⟩ := s
      obtain ⟨hi1, q5, q0, q1, q4, qn, qm, qz, qa⟩ := hs
      simp only at q5 q0 q1 q4 qn qm qz qa
      subst qn
      obtain ⟨s, hs⟩ : ∃ s, l[i]? = some s := ⟨l[i], List.getElem?_eq_getElem hi⟩
      obtain ⟨p, hp⟩ : ∃ s, l[i - 1]? = some s := ⟨l[i - 1], List.getElem?_eq_getElem (by omega)⟩
      have hrM : RRi M (n + 1) (.one (.sl id off l.length cap 5)) l := hr.keep (by omega) qm
      obtain ⟨id', off', cap', b', e', _, rs, rsb, rsc, rsd⟩ := at_ri hrM hs
      injection e' with e'
      injection e' with e1 e2 e3 e4
      subst e1
      subst e2
      obtain ⟨id', off', cap', b'', e', _, rp, rpb, rpc, rpd⟩ := at_ri hrM hp
      injection e' with e'
      injection e' with e1 e2 e3 e4
      subst e1
      subst e2
      rw [rsb] at rpb
      cases rpb
      have hpt := qa (i - 1) p (by omega) hp
      obtain ⟨p1, p2, p3⟩ := S.ok _ _ hp
      obtain ⟨s1, s2, s3⟩ := S.ok _ _ hs
      have g1 : IntKind.i64.wrap ((i : Int) - 1) = ((i - 1 : Nat) : Int) := (wr_eq (by omega) (by omega)).trans (by omega)
      have g2 : ((i : Int) < (l.length : Int)) = True := eq_true (by omega)
      have g3 : (0 ≤ (i : Int)) = True := eq_true (by omega)
      have g4 : (((i - 1 : Nat) : Int) < (l.length : Int)) = True := eq_true (by omega)
      have g5 : (0 ≤ ((i - 1 : Nat) : Int)) = True := eq_true (by omega)
      have g7 : IntKind.i64.wrap ((i : Int) + 1) = ((i + 1 : Nat) : Int) := wr_nat (by omega)
      by_cases hts : t < s.a
      · have f1 : IntKind.i64.wrap (t - p.a) = t - p.a := wr_eq (by omega) (by omega)
        have f2 : IntKind.i64.wrap ((t - p.a) * 65536) = (t - p.a) * 65536 := wr_eq (by omega) (by omega)
        have f3 : IntKind.i64.wrap (s.a - p.a) = s.a - p.a := wr_eq (by omega) (by omega)
        have vb := v_BelowG ((t - p.a) * 65536) (s.a - p.a) (by omega) (by omega) (by omega) (fun _ => none) 0
        have q0' : 0 ≤ (t - p.a) * 65536 / (s.a - p.a) := Int.ediv_nonneg (by omega) (by omega)
        have q1' : (t - p.a) * 65536 / (s.a - p.a) ≤ 65536 := by
          have : (t - p.a) * 65536 / (s.a - p.a) < 65537 := Int.ediv_lt_of_lt_mul (by omega) (by omega)
          omega
        have vM := v_rMix p.co s.co ((t - p.a) * 65536 / (s.a - p.a)) (hby _ (List.mem_of_getElem? hp)) (hby _ (List.mem_of_getElem? hs)) q0' q1' (fun _ => none) 0
        have fin : IsShade l t (mixC p.co s.co ((t - p.a) * 65536 / (s.a - p.a))) := Or.inr (Or.inl ⟨i - 1, p, s, hp, by rw [Nat.sub_add_cancel hi1]; exact hs, fun j u hj hu => qa j u (by omega) hu, hlt0, hts, rfl⟩)
        generalize mixC p.co s.co ((t - p.a) * 65536 / (s.a - p.a)) = C at *
        generalize (t - p.a) * 65536 / (s.a - p.a) = T at *
        simp only [Stp.co] at vM
        try simp only [r14_0, r14_1, r14_2, r14_3, r14_4, r14_6, r14_7, r14_5, r14_8, c14, F14, l14_0, hlen, q5, q0, q1, q4, g1, g2, g3, g4, g5, f1, f2, f3, vb, vM, hts, rsb, rsc, rsd, rpc, rpd, qz, Int.toNat_natCast, go_sem, Int.reduceTMod, Int.reduceTDiv, Int.reduceDiv, Int.reduceMod, Int.reduceAdd, Int.reduceSub, Int.reduceMul, Int.reduceNeg, Int.reducePow, Int.reduceEq, ↓reduceIte, Nat.reduceEqDiff, Nat.reduceAdd, Nat.reduceMul, Nat.reduceLeDiff, Nat.reduceSub, Nat.reduceLT, Int.reduceToNat, Int.reduceLT, Int.reduceLE, reduceCtorEq]
        repeat' ((first | refine FK_split (fun h_ => ?_) (fun h_ => ?_) | refine GK_split (fun h_ => ?_) (fun h_ => ?_) | refine ite_both (fun h_ => ?_) (fun h_ => ?_)) <;> (try simp only [decide_eq_true_eq, decide_eq_false_iff_not, Bool.not_true, Bool.not_false, Bool.not_eq_true', Bool.not_eq_false', Bool.not_eq_eq_eq_not, Decidable.not_not] at h_) <;> (try simp only [r14_0, r14_1, r14_2, r14_3, r14_4, r14_6, r14_7, r14_5, r14_8, c14, F14, l14_0, hlen, q5, q0, q1, q4, g1, g2, g3, g4, g5, f1, f2, f3, vb, vM, hts, rsb, rsc, rsd, rpc, rpd, qz, Int.toNat_natCast, h_, go_sem, Int.reduceTMod, Int.reduceTDiv, Int.reduceDiv, Int.reduceMod, Int.reduceAdd, Int.reduceSub, Int.reduceMul, Int.reduceNeg, Int.reducePow, Int.reduceEq, ↓reduceIte, Nat.reduceEqDiff, Nat.reduceAdd, Nat.reduceMul, Nat.reduceLeDiff, Nat.reduceSub, Nat.reduceLT, Int.reduceToNat, Int.reduceLT, Int.reduceLE, reduceCtorEq]))
        exact ⟨C, rfl, fin⟩
      · skip
        try simp only [r14_0, r14_1, r14_2, r14_3, r14_4, r14_6, r14_7, r14_5, r14_8, c14, F14, l14_0, hlen, q5, q0, q1, q4, g1, g2, g3, g4, g5, g7, hts, rsb, rsc, Int.toNat_natCast, go_sem, Int.reduceTMod, Int.reduceTDiv, Int.reduceDiv, Int.reduceMod, Int.reduceAdd, Int.reduceSub, Int.reduceMul, Int.reduceNeg, Int.reducePow, Int.reduceEq, ↓reduceIte, Nat.reduceEqDiff, Nat.reduceAdd, Nat.reduceMul, Nat.reduceLeDiff, Nat.reduceSub, Nat.reduceLT, Int.reduceToNat, Int.reduceLT, Int.reduceLE, reduceCtorEq]
        repeat' ((first | refine FK_split (fun h_ => ?_) (fun h_ => ?_) | refine GK_split (fun h_ => ?_) (fun h_ => ?_) | refine ite_both (fun h_ => ?_) (fun h_ => ?_)) <;> (try simp only [decide_eq_true_eq, decide_eq_false_iff_not, Bool.not_true, Bool.not_false, Bool.not_eq_true', Bool.not_eq_false', Bool.not_eq_eq_eq_not, Decidable.not_not] at h_) <;> (try simp only [r14_0, r14_1, r14_2, r14_3, r14_4, r14_6, r14_7, r14_5, r14_8, c14, F14, l14_0, hlen, q5, q0, q1, q4, g1, g2, g3, g4, g5, g7, hts, rsb, rsc, Int.toNat_natCast, h_, go_sem, Int.reduceTMod, Int.reduceTDiv, Int.reduceDiv, Int.reduceMod, Int.reduceAdd, Int.reduceSub, Int.reduceMul, Int.reduceNeg, Int.reducePow, Int.reduceEq, ↓reduceIte, Nat.reduceEqDiff, Nat.reduceAdd, Nat.reduceMul, Nat.reduceLeDiff, Nat.reduceSub, Nat.reduceLT, Int.reduceToNat, Int.reduceLT, Int.reduceLE, reduceCtorEq]))
        refine next _ ⟨?_, ?_, ?_, ?_, ?_, ?_, ?_, ?_, ?_⟩
        · omega
        · simp only [go_sem, Int.reduceTMod, Int.reduceTDiv, Int.reduceDiv, Int.reduceMod, Int.reduceAdd, Int.reduceSub, Int.reduceMul, Int.reduceNeg, Int.reducePow, Int.reduceEq, ↓reduceIte, Nat.reduceEqDiff, Nat.reduceAdd, Nat.reduceMul, Nat.reduceLeDiff, Nat.reduceSub, Nat.reduceLT, Int.reduceToNat, Int.reduceLT, Int.reduceLE, reduceCtorEq]
        · simp only [q0, go_sem, Int.reduceTMod, Int.reduceTDiv, Int.reduceDiv, Int.reduceMod, Int.reduceAdd, Int.reduceSub, Int.reduceMul, Int.reduceNeg, Int.reducePow, Int.reduceEq, ↓reduceIte, Nat.reduceEqDiff, Nat.reduceAdd, Nat.reduceMul, Nat.reduceLeDiff, Nat.reduceSub, Nat.reduceLT, Int.reduceToNat, Int.reduceLT, Int.reduceLE, reduceCtorEq]
        · simp only [q1, go_sem, Int.reduceTMod, Int.reduceTDiv, Int.reduceDiv, Int.reduceMod, Int.reduceAdd, Int.reduceSub, Int.reduceMul, Int.reduceNeg, Int.reducePow, Int.reduceEq, ↓reduceIte, Nat.reduceEqDiff, Nat.reduceAdd, Nat.reduceMul, Nat.reduceLeDiff, Nat.reduceSub, Nat.reduceLT, Int.reduceToNat, Int.reduceLT, Int.reduceLE, reduceCtorEq]
        · simp only [q4, go_sem, Int.reduceTMod, Int.reduceTDiv, Int.reduceDiv, Int.reduceMod, Int.reduceAdd, Int.reduceSub, Int.reduceMul, Int.reduceNeg, Int.reducePow, Int.reduceEq, ↓reduceIte, Nat.reduceEqDiff, Nat.reduceAdd, Nat.reduceMul, Nat.reduceLeDiff, Nat.reduceSub, Nat.reduceLT, Int.reduceToNat, Int.reduceLT, Int.reduceLE, reduceCtorEq]
        · rfl
        · exact qm
        · exact qz
        · intro j u hj hu
          by_cases e : j = i
          · subst e; rw [hs] at hu; cases hu; omega
          · exact qa j u (by omega) hu
    · obtain ⟨e, M, N⟩ := s
      obtain ⟨hi1, q5, q0, q1, q4, qn, qm, qz, qa⟩ := hs
      simp only at q5 q0 q1 q4 qn qm qz qa
      subst qn
      have c5 : ((l.length : Int) < (l.length : Int)) = False := eq_false (by omega)
      have rLd' : rd M id (off + ((l.length - 1) * 5 + 1)) 4 = some [I sL.c0, I sL.c1, I sL.c2, I sL.c3] := by
        have e9 : rd M id (off + ((l.length - 1) * 5 + 1)) 4 = rd m id (off + ((l.length - 1) * 5 + 1)) 4 := by unfold rd; rw [qm id hid]
        rw [e9]; exact rLd
      try simp only [r14_0, r14_1, r14_2, r14_3, r14_4, r14_6, r14_7, r14_5, r14_8, c14, F14, l14_0, hlen, q5, q0, q1, q4, c5, w1, c2, c3, rLd', qz, Int.toNat_natCast, go_sem, Int.reduceTMod, Int.reduceTDiv, Int.reduceDiv, Int.reduceMod, Int.reduceAdd, Int.reduceSub, Int.reduceMul, Int.reduceNeg, Int.reducePow, Int.reduceEq, ↓reduceIte, Nat.reduceEqDiff, Nat.reduceAdd, Nat.reduceMul, Nat.reduceLeDiff, Nat.reduceSub, Nat.reduceLT, Int.reduceToNat, Int.reduceLT, Int.reduceLE, reduceCtorEq]
      repeat' ((first | refine FK_split (fun h_ => ?_) (fun h_ => ?_) | refine GK_split (fun h_ => ?_) (fun h_ => ?_) | refine ite_both (fun h_ => ?_) (fun h_ => ?_)) <;> (try simp only [decide_eq_true_eq, decide_eq_false_iff_not, Bool.not_true, Bool.not_false, Bool.not_eq_true', Bool.not_eq_false', Bool.not_eq_eq_eq_not, Decidable.not_not] at h_) <;> (try simp only [r14_0, r14_1, r14_2, r14_3, r14_4, r14_6, r14_7, r14_5, r14_8, c14, F14, l14_0, hlen, q5, q0, q1, q4, c5, w1, c2, c3, rLd', qz, Int.toNat_natCast, h_, go_sem, Int.reduceTMod, Int.reduceTDiv, Int.reduceDiv, Int.reduceMod, Int.reduceAdd, Int.reduceSub, Int.reduceMul, Int.reduceNeg, Int.reducePow, Int.reduceEq, ↓reduceIte, Nat.reduceEqDiff, Nat.reduceAdd, Nat.reduceMul, Nat.reduceLeDiff, Nat.reduceSub, Nat.reduceLT, Int.reduceToNat, Int.reduceLT, Int.reduceLE, reduceCtorEq]))
      exact ⟨sL.co, rfl, Or.inr (Or.inr ⟨sL, hL, fun j u hu => qa j u (List.getElem?_eq_some_iff.1 hu).1 hu, hlt0, rfl⟩)⟩
    · exact Nat.le_refl _
    · simp only [go_sem, Int.reduceTMod, Int.reduceTDiv, Int.reduceDiv, Int.reduceMod, Int.reduceAdd, Int.reduceSub, Int.reduceMul, Int.reduceNeg, Int.reducePow, Int.reduceEq, ↓reduceIte, Nat.reduceEqDiff, Nat.reduceAdd, Nat.reduceMul, Nat.reduceLeDiff, Nat.reduceSub, Nat.reduceLT, Int.reduceToNat, Int.reduceLT, Int.reduceLE, reduceCtorEq]
    · simp only [go_sem, Int.reduceTMod, Int.reduceTDiv, Int.reduceDiv, Int.reduceMod, Int.reduceAdd, Int.reduceSub, Int.reduceMul, Int.reduceNeg, Int.reducePow, Int.reduceEq, ↓reduceIte, Nat.reduceEqDiff, Nat.reduceAdd, Nat.reduceMul, Nat.reduceLeDiff, Nat.reduceSub, Nat.reduceLT, Int.reduceToNat, Int.reduceLT, Int.reduceLE, reduceCtorEq]
    · simp only [go_sem, Int.reduceTMod, Int.reduceTDiv, Int.reduceDiv, Int.reduceMod, Int.reduceAdd, Int.reduceSub, Int.reduceMul, Int.reduceNeg, Int.reducePow, Int.reduceEq, ↓reduceIte, Nat.reduceEqDiff, Nat.reduceAdd, Nat.reduceMul, Nat.reduceLeDiff, Nat.reduceSub, Nat.reduceLT, Int.reduceToNat, Int.reduceLT, Int.reduceLE, reduceCtorEq]
    · simp only [go_sem, Int.reduceTMod, Int.reduceTDiv, Int.reduceDiv, Int.reduceMod, Int.reduceAdd, Int.reduceSub, Int.reduceMul, Int.reduceNeg, Int.reducePow, Int.reduceEq, ↓reduceIte, Nat.reduceEqDiff, Nat.reduceAdd, Nat.reduceMul, Nat.reduceLeDiff, Nat.reduceSub, Nat.reduceLT, Int.reduceToNat, Int.reduceLT, Int.reduceLE, reduceCtorEq]
    · rfl
    · intro j hj
      simp only [na_0 hj, go_sem, Int.reduceTMod, Int.reduceTDiv, Int.reduceDiv, Int.reduceMod, Int.reduceAdd, Int.reduceSub, Int.reduceMul, Int.reduceNeg, Int.reducePow, Int.reduceEq, ↓reduceIte, Nat.reduceEqDiff, Nat.reduceAdd, Nat.reduceMul, Nat.reduceLeDiff, Nat.reduceSub, Nat.reduceLT, Int.reduceToNat, Int.reduceLT, Int.reduceLE, reduceCtorEq]
    · simp only [go_sem, Int.reduceTMod, Int.reduceTDiv, Int.reduceDiv, Int.reduceMod, Int.reduceAdd, Int.reduceSub, Int.reduceMul, Int.reduceNeg, Int.reducePow, Int.reduceEq, ↓reduceIte, Nat.reduceEqDiff, Nat.reduceAdd, Nat.reduceMul, Nat.reduceLeDiff, Nat.reduceSub, Nat.reduceLT, Int.reduceToNat, Int.reduceLT, Int.reduceLE, reduceCtorEq]
    · intro j u hj hu
      rw [show j = 0 by omega, h0] at hu
      cases hu
      omega
  obtain ⟨r', h1, C, rfl, h2⟩ := callF_ex hF
  exact ⟨C, h2, h1⟩
end Go.Proofs.Ytffhhgcgnillaaa.Sy
