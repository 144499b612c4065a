import Derived.Test.YtpleidpbapgmiaaDoorMgD
/- A path is right: the code's check walked. Conditions: those that each theorem names. -/
namespace Go.Proofs.YtpleidpbapgmiaaDoor.Sy
open Go Go.Proofs
set_option linter.unusedSimpArgs false
set_option linter.unusedVariables false
set_option maxRecDepth 20000
attribute [local go_sem] XK_seq XK_block XK_skip XK_exit XK_ret XK_cond XK_reg XK_dreg XK_ureg KN_seq KN_blk KN_lp KN_chk KN_chku KN_top KN_fin KX_seq KX_lp KX_blk KX_chk KX_top KR_seq KR_blk KR_lp KR_chk KR_top KR_fin FK_true FK_false RK_nil RK_mv RK_pick RK_alloc RK_box RK_build RK_bslice RK_load1 RK_loadA RK_store RK_nilchk RK_bin RK_beq RK_eqv RK_eqnil RK_un RK_conv RK_mkfn RK_mkslice RK_slS RK_slA RK_fadr RK_fld RK_iadrA RK_iadrS RK_idxA RK_ext RK_lenC RK_cap RK_app RK_appz RK_pre RK_cpy RK_mn RK_mx RK_len RK_carry RK_clr carryR um0 um1 ThenK_some RK_guard GK_tt GK_ff GK_tf GK_ft GK_none QK_some RK_callQ RK_callZ RK_callT TK_some VK_clo RK_callV
  evalOp evO evOs upd_at unfrz_at putE_some putE_none boolOf_b boolOf_tup Option.map_some evRes pack_one pack_two pack_three pack_none List.getD_cons_zero List.getD_cons_succ getD_nil
  Option.some.injEq exists_eq_left' Reg.cs? fillC setL List.set_cons_zero List.set_cons_succ List.length_cons List.length_nil rd_upd rd_updn rdB wr List.drop_zero List.drop_succ_cons List.take_succ_cons List.take_zero List.getElem?_cons_zero List.getElem?_cons_succ
  ix Int.toNat_zero lenO_sl lenO_nil nadd na_eq na_eq' na_lt na_ee na_ll na_ne na_ne' na_tt
attribute [local go_sem] Reg.flat_one Reg.flat_agg Reg.flat_tup flats_nil flats_cons Cell.flat_sc Cell.flat_ptr List.all_cons List.all_nil disOk safeOk safeR decide_eq_true_eq decide_eq_false_iff_not
  List.map_cons List.map_nil List.cons_append List.nil_append List.append_nil evalOp.capsOf Bool.false_bne Bool.bne_false Bool.true_bne Bool.bne_true bne_self_eq_false beq_self_eq_true Bool.not_not Bool.false_and Bool.and_false Bool.true_or Bool.or_true beq_iff_eq eqCells
  Bool.true_beq Bool.false_beq Bool.not_eq_true' Bool.not_eq_eq_eq_not Bool.not_eq_false' and_false false_and frz_at idOf noId Option.isSome_some Bool.and_eq_true
attribute [local go_sem] wr_eq bV_add bV_sub bV_mul bV_eql bV_neq bV_lss bV_leq bV_gtr bV_geq bV_quo bV_rem bV_shr bV_shl uV_not uV_neg wrapU bits_and bits_or bits_xor IntKind.bits Nat.min_eq_left Nat.min_eq_right Nat.min_self
attribute [local go_sem] bne_iff_ne Int.cast_ofNat_Int Nat.zero_add Nat.add_zero and_self and_true true_and ne_eq not_false_eq_true not_true_eq_false decide_true decide_false Bool.false_eq_true Bool.not_true Bool.not_false Bool.true_and Bool.and_true Bool.or_false Bool.false_or Bool.and_self

def zP (p : Pt) : Bool := p.x == 0 && p.y == 0
def badK (op : Bool) (s : Sg) : Bool := decide (s.k < 1) || decide (5 < s.k) || (!op && !decide (s.k = 1))
def badU (s : Sg) : Bool := !(s.pts.drop (need s.k).toNat).all zP
def badR (s : Sg) : Bool := !(s.pts.take (need s.k).toNat).all inP
def chkS (op : Bool) (s : Sg) : Int := if badK op s = true then 33 else if badU s = true then 33 else if badR s = true then 30 else 0
def chkL : Bool → List Sg → Int
  | _, [] => 0
  | op, s :: r => if chkS op s = 0 then chkL (!decide (s.k = 5)) r else chkS op s
def chkP (l : List Sg) : Int := if 4096 < l.length then 36 else chkL false l
theorem chkL_at {op : Bool} {l : List Sg} {i : Nat} {s : Sg} (h : l[i]? = some s) : chkL op (l.drop i) = if chkS op s = 0 then chkL (!decide (s.k = 5)) (l.drop (i + 1)) else chkS op s := by
  have hi : i < l.length := (List.getElem?_eq_some_iff.1 h).1
  rw [List.drop_eq_getElem_cons hi]
  have : l[i] = s := (List.getElem?_eq_some_iff.1 h).2
  rw [this]
  rfl
theorem v_C1 (x y : Int) (m : Mem) (n : Nat) : callF TA 39 [.agg [I x, I y]] m n = some (RB (!inP ⟨x, y⟩)) := by
  refine callF_of (Fn_ofK (fn := F39) rfl (by simp [F39]) ?_)
  try simp only [r39_0, r39_1, c39, F39, v_PIn, go_sem, Int.reduceTMod, Int.reduceTDiv, Int.reduceDiv, Int.reduceMod, Int.reduceAdd, Int.reduceSub, Int.reduceMul, Int.reduceNeg, Int.reducePow, Int.reduceEq, ↓reduceIte, Nat.reduceEqDiff, Nat.reduceAdd, Nat.reduceMul, Nat.reduceLeDiff, Nat.reduceSub, Nat.reduceLT, Int.reduceToNat, Int.reduceLT, Int.reduceLE, reduceCtorEq]
  repeat' ((first | refine FK_split (fun h_ => ?_) (fun h_ => ?_) | refine GK_split (fun h_ => ?_) (fun h_ => ?_) | refine ite_both (fun h_ => ?_) (fun h_ => ?_)) <;> (try simp only [decide_eq_true_eq, decide_eq_false_iff_not, Bool.not_true, Bool.not_false, Bool.not_eq_true', Bool.not_eq_false', Bool.not_eq_eq_eq_not, Decidable.not_not] at h_) <;> (try simp only [r39_0, r39_1, c39, F39, v_PIn, h_, go_sem, Int.reduceTMod, Int.reduceTDiv, Int.reduceDiv, Int.reduceMod, Int.reduceAdd, Int.reduceSub, Int.reduceMul, Int.reduceNeg, Int.reducePow, Int.reduceEq, ↓reduceIte, Nat.reduceEqDiff, Nat.reduceAdd, Nat.reduceMul, Nat.reduceLeDiff, Nat.reduceSub, Nat.reduceLT, Int.reduceToNat, Int.reduceLT, Int.reduceLE, reduceCtorEq]))
set_option maxHeartbeats 4000000 in
theorem v_Check {r : Reg} {l : List Sg} {m : Mem} {n : Nat} {o : Bool} (hr : RSg m n r l) (h0 : m 0 = some ⟨needC, o⟩) (hn : 0 < n) : callF TA 14 [r] m n = some (RI (chkP l)) := by
  refine callF_of (Fn_ofK (fn := F14) rfl (by simp [F14]) ?_)
  have hlen := hr.len
  by_cases g : 4096 < (l.length : Int)
  · have e : chkP l = 36 := if_pos (by omega)
    try simp only [r14_0, r14_1, r14_2, r14_3, r14_4, r14_5, r14_6, r14_7, r14_8, r14_9, r14_10, r14_11, r14_12, r14_13, r14_14, r14_15, r14_16, r14_17, r14_18, r14_19, c14, F14, hlen, g, e, go_sem, Int.reduceTMod, Int.reduceTDiv, Int.reduceDiv, Int.reduceMod, Int.reduceAdd, Int.reduceSub, Int.reduceMul, Int.reduceNeg, Int.reducePow, Int.reduceEq, ↓reduceIte, Nat.reduceEqDiff, Nat.reduceAdd, Nat.reduceMul, Nat.reduceLeDiff, Nat.reduceSub, Nat.reduceLT, Int.reduceToNat, Int.reduceLT, Int.reduceLE, reduceCtorEq]
    repeat' ((first | refine FK_split (fun h_ => ?_) (fun h_ => ?_) | refine GK_split (fun h_ => ?_) (fun h_ => ?_) | refine ite_both (fun h_ => ?_) (fun h_ => ?_)) <;> (try simp only [decide_eq_true_eq, decide_eq_false_iff_not, Bool.not_true, Bool.not_false, Bool.not_eq_true', Bool.not_eq_false', Bool.not_eq_eq_eq_not, Decidable.not_not] at h_) <;> (try simp only [r14_0, r14_1, r14_2, r14_3, r14_4, r14_5, r14_6, r14_7, r14_8, r14_9, r14_10, r14_11, r14_12, r14_13, r14_14, r14_15, r14_16, r14_17, r14_18, r14_19, c14, F14, hlen, g, e, h_, go_sem, Int.reduceTMod, Int.reduceTDiv, Int.reduceDiv, Int.reduceMod, Int.reduceAdd, Int.reduceSub, Int.reduceMul, Int.reduceNeg, Int.reducePow, Int.reduceEq, ↓reduceIte, Nat.reduceEqDiff, Nat.reduceAdd, Nat.reduceMul, Nat.reduceLeDiff, Nat.reduceSub, Nat.reduceLT, Int.reduceToNat, Int.reduceLT, Int.reduceLE, reduceCtorEq]))
  have hP : chkP l = chkL false l := if_neg (by omega)
  try simp only [r14_0, r14_1, r14_2, r14_3, r14_4, r14_5, r14_6, r14_7, r14_8, r14_9, r14_10, r14_11, r14_12, r14_13, r14_14, r14_15, r14_16, r14_17, r14_18, r14_19, c14, F14, hlen, g, go_sem, Int.reduceTMod, Int.reduceTDiv, Int.reduceDiv, Int.reduceMod, Int.reduceAdd, Int.reduceSub, Int.reduceMul, Int.reduceNeg, Int.reducePow, Int.reduceEq, ↓reduceIte, Nat.reduceEqDiff, Nat.reduceAdd, Nat.reduceMul, Nat.reduceLeDiff, Nat.reduceSub, Nat.reduceLT, Int.reduceToNat, Int.reduceLT, Int.reduceLE, reduceCtorEq]
  repeat' ((first | refine FK_split (fun h_ => ?_) (fun h_ => ?_) | refine GK_split (fun h_ => ?_) (fun h_ => ?_) | refine ite_both (fun h_ => ?_) (fun h_ => ?_)) <;> (try simp only [decide_eq_true_eq, decide_eq_false_iff_not, Bool.not_true, Bool.not_false, Bool.not_eq_true', Bool.not_eq_false', Bool.not_eq_eq_eq_not, Decidable.not_not] at h_) <;> (try simp only [r14_0, r14_1, r14_2, r14_3, r14_4, r14_5, r14_6, r14_7, r14_8, r14_9, r14_10, r14_11, r14_12, r14_13, r14_14, r14_15, r14_16, r14_17, r14_18, r14_19, c14, F14, hlen, g, h_, go_sem, Int.reduceTMod, Int.reduceTDiv, Int.reduceDiv, Int.reduceMod, Int.reduceAdd, Int.reduceSub, Int.reduceMul, Int.reduceNeg, Int.reducePow, Int.reduceEq, ↓reduceIte, Nat.reduceEqDiff, Nat.reduceAdd, Nat.reduceMul, Nat.reduceLeDiff, Nat.reduceSub, Nat.reduceLT, Int.reduceToNat, Int.reduceLT, Int.reduceLE, reduceCtorEq]))
  refine XK_iter (inv := fun i s => ∃ op, s.e 13 = RI i ∧ s.e 12 = RI l.length ∧ s.e 11 = r ∧ s.e 3 = RB op ∧ n ≤ s.n ∧ (∀ id, id < n → s.m id = m id) ∧ chkL false l = chkL op (l.drop i)) l.length
    (fun L _ => ⟨fun i hi s hs next => ?_, fun s hs => ?_⟩) 0 (by omega) _ ⟨false, ?_, ?_, ?_, ?_, Nat.le_refl _, fun _ _ => rfl, rfl⟩
  · obtain ⟨e, M, N⟩ := s
    obtain ⟨op, q13, q12, q11, q3, qn, qm, qc⟩ := hs
    simp only at q13 q12 q11 q3 qn qm
    have hp : l[i]? = some l[i] := List.getElem?_eq_getElem hi
    obtain ⟨id, off, cap, hr1, hid, hrd⟩ := (hr.keep qn qm).at cs7 hp
    rw [chkL_at hp] at qc
    generalize l[i] = sg at *
    have c2 : ((i : Int) < (l.length : Int)) = True := eq_true (by omega)
    have c3 : (0 ≤ (i : Int)) = True := eq_true (by omega)
    have c7 : IntKind.i64.wrap ((i : Int) + 1) = ((i + 1 : Nat) : Int) := wr_nat (by omega)
    have tail : ∀ (e' : Nat → Reg) (M' : Mem) (N' sb : Nat), e' 13 = RI i → e' 12 = RI l.length → e' 11 = r → e' 5 = .one (.ptr sb 0) → n ≤ N' → (∀ id, id < n → M' id = m id) → sb < N' → n ≤ sb → M' sb = some ⟨sg.cs, true⟩ → ¬ sg.k < 1 → ¬ 5 < sg.k → badK op sg = false → badU sg = false →
        RK TA r14_15 e' M' N' (Kt.seq (SC.cond (O.t 52) ((SC.reg r14_16).seq SC.ret) SC.skip) (Kt.seq (SC.reg r14_17) (Kt.blk 1 (Kt.seq (SC.reg r14_18) (Kt.lp L (Kt.blk 0 (Kt.seq ((SC.reg r14_19).seq SC.ret) (Kt.fin [SRes.tmp 2] fun r x x_1 => r = RI (chkP l))))))))) := by
      intro e' M' N' sb p13 p12 p11 p5 pn pm psb psn pb hk1 hk2 hK hU
      have hz : M' 0 = some ⟨needC, o⟩ := by rw [pm 0 hn]; exact h0
      have hfz : frz M' 0 = some ⟨needC, false⟩ := by rw [frz_at, hz]; rfl
      have hfb : frz M' sb = some ⟨sg.cs, false⟩ := by rw [frz_at, pb]; rfl
      try simp only [r14_15, p5, go_sem, Int.reduceTMod, Int.reduceTDiv, Int.reduceDiv, Int.reduceMod, Int.reduceAdd, Int.reduceSub, Int.reduceMul, Int.reduceNeg, Int.reducePow, Int.reduceEq, ↓reduceIte, Nat.reduceEqDiff, Nat.reduceAdd, Nat.reduceMul, Nat.reduceLeDiff, Nat.reduceSub, Nat.reduceLT, Int.reduceToNat, Int.reduceLT, Int.reduceLE, reduceCtorEq]
      repeat' ((first | refine FK_split (fun h_ => ?_) (fun h_ => ?_) | refine GK_split (fun h_ => ?_) (fun h_ => ?_) | refine ite_both (fun h_ => ?_) (fun h_ => ?_)) <;> (try simp only [decide_eq_true_eq, decide_eq_false_iff_not, Bool.not_true, Bool.not_false, Bool.not_eq_true', Bool.not_eq_false', Bool.not_eq_eq_eq_not, Decidable.not_not] at h_) <;> (try simp only [r14_15, p5, h_, go_sem, Int.reduceTMod, Int.reduceTDiv, Int.reduceDiv, Int.reduceMod, Int.reduceAdd, Int.reduceSub, Int.reduceMul, Int.reduceNeg, Int.reducePow, Int.reduceEq, ↓reduceIte, Nat.reduceEqDiff, Nat.reduceAdd, Nat.reduceMul, Nat.reduceLeDiff, Nat.reduceSub, Nat.reduceLT, Int.reduceToNat, Int.reduceLT, Int.reduceLE, reduceCtorEq]))
      refine RK_callk ?_
      show Fn TA _ [e' 5] _ _ _
      rw [p5]
      refine (w_points (off := 0) (k := sg.k) hfz hfb rfl (by simp)).mono ?_
      rintro r2 m2 n2 ⟨e1, e2, e3⟩
      rw [e1, e2, e3]
      obtain ⟨M2, hM2⟩ : ∃ M2, M2 = unfrz M' N' (frz M') := ⟨_, rfl⟩
      rw [← hM2, Nat.max_self]
      have hf2 : ∀ id, id < N' → M2 id = M' id := fun id hid => by rw [hM2, unfrz_at, if_pos hid]
      have hb2 : M2 sb = some ⟨sg.cs, true⟩ := by rw [hf2 sb psb]; exact pb
      have hpr : RPt M2 N' (.one (.sl sb 1 (need sg.k).toNat (some 3) 2)) (sg.pts.take (need sg.k).toNat) := by
        have e3 : (sg.pts.take (need sg.k).toNat).length = (need sg.k).toNat := by
          rcases kinds hk1 hk2 with h | h | h | h | h <;> rw [h] <;> rfl
        refine Or.inr ⟨sb, 1, some 3, by rw [e3], psb, ?_⟩
        rw [rd_of hb2, e3]
        rcases kinds hk1 hk2 with h | h | h | h | h <;> rw [h] <;> rfl
      have vC := v_Contains 39 v_C1 _ _ _ _ hpr.frz (by rw [List.length_take]; have e4 : sg.pts.length = 3 := rfl; omega)
      cases hR : badR sg
      · have e5 : chkS op sg = 0 := by unfold chkS; rw [hK, hU, hR]; rfl
        have e6 : (sg.pts.take (need sg.k).toNat).all inP = true := by simpa [badR] using hR
        rw [e5, if_pos rfl] at qc
        rw [e6] at vC
        try simp only [vC, r14_17, r14_18, p5, hb2, p13, c7, go_sem, Int.reduceTMod, Int.reduceTDiv, Int.reduceDiv, Int.reduceMod, Int.reduceAdd, Int.reduceSub, Int.reduceMul, Int.reduceNeg, Int.reducePow, Int.reduceEq, ↓reduceIte, Nat.reduceEqDiff, Nat.reduceAdd, Nat.reduceMul, Nat.reduceLeDiff, Nat.reduceSub, Nat.reduceLT, Int.reduceToNat, Int.reduceLT, Int.reduceLE, reduceCtorEq]
        repeat' ((first | refine FK_split (fun h_ => ?_) (fun h_ => ?_) | refine GK_split (fun h_ => ?_) (fun h_ => ?_) | refine ite_both (fun h_ => ?_) (fun h_ => ?_)) <;> (try simp only [decide_eq_true_eq, decide_eq_false_iff_not, Bool.not_true, Bool.not_false, Bool.not_eq_true', Bool.not_eq_false', Bool.not_eq_eq_eq_not, Decidable.not_not] at h_) <;> (try simp only [vC, r14_17, r14_18, p5, hb2, p13, c7, h_, go_sem, Int.reduceTMod, Int.reduceTDiv, Int.reduceDiv, Int.reduceMod, Int.reduceAdd, Int.reduceSub, Int.reduceMul, Int.reduceNeg, Int.reducePow, Int.reduceEq, ↓reduceIte, Nat.reduceEqDiff, Nat.reduceAdd, Nat.reduceMul, Nat.reduceLeDiff, Nat.reduceSub, Nat.reduceLT, Int.reduceToNat, Int.reduceLT, Int.reduceLE, reduceCtorEq]))
        refine next _ ⟨!decide (sg.k = 5), ?_, ?_, ?_, ?_, pn, fun id hid => (hf2 id (by omega)).trans (pm id hid), qc⟩
        · simp only [go_sem, Int.reduceTMod, Int.reduceTDiv, Int.reduceDiv, Int.reduceMod, Int.reduceAdd, Int.reduceSub, Int.reduceMul, Int.reduceNeg, Int.reducePow, Int.reduceEq, ↓reduceIte, Nat.reduceEqDiff, Nat.reduceAdd, Nat.reduceMul, Nat.reduceLeDiff, Nat.reduceSub, Nat.reduceLT, Int.reduceToNat, Int.reduceLT, Int.reduceLE, reduceCtorEq]
        · simp only [p12, go_sem, Int.reduceTMod, Int.reduceTDiv, Int.reduceDiv, Int.reduceMod, Int.reduceAdd, Int.reduceSub, Int.reduceMul, Int.reduceNeg, Int.reducePow, Int.reduceEq, ↓reduceIte, Nat.reduceEqDiff, Nat.reduceAdd, Nat.reduceMul, Nat.reduceLeDiff, Nat.reduceSub, Nat.reduceLT, Int.reduceToNat, Int.reduceLT, Int.reduceLE, reduceCtorEq]
        · simp only [p11, go_sem, Int.reduceTMod, Int.reduceTDiv, Int.reduceDiv, Int.reduceMod, Int.reduceAdd, Int.reduceSub, Int.reduceMul, Int.reduceNeg, Int.reducePow, Int.reduceEq, ↓reduceIte, Nat.reduceEqDiff, Nat.reduceAdd, Nat.reduceMul, Nat.reduceLeDiff, Nat.reduceSub, Nat.reduceLT, Int.reduceToNat, Int.reduceLT, Int.reduceLE, reduceCtorEq]
        · simp only [go_sem, Int.reduceTMod, Int.reduceTDiv, Int.reduceDiv, Int.reduceMod, Int.reduceAdd, Int.reduceSub, Int.reduceMul, Int.reduceNeg, Int.reducePow, Int.reduceEq, ↓reduceIte, Nat.reduceEqDiff, Nat.reduceAdd, Nat.reduceMul, Nat.reduceLeDiff, Nat.reduceSub, Nat.reduceLT, Int.reduceToNat, Int.reduceLT, Int.reduceLE, reduceCtorEq]
      · have e5 : chkS op sg = 30 := by unfold chkS; rw [hK, hU, hR]; rfl
        have e6 : (sg.pts.take (need sg.k).toNat).all inP = false := by simpa [badR] using hR
        rw [e5, if_neg (by decide)] at qc
        rw [e6] at vC
        try simp only [vC, r14_16, hP, qc, go_sem, Int.reduceTMod, Int.reduceTDiv, Int.reduceDiv, Int.reduceMod, Int.reduceAdd, Int.reduceSub, Int.reduceMul, Int.reduceNeg, Int.reducePow, Int.reduceEq, ↓reduceIte, Nat.reduceEqDiff, Nat.reduceAdd, Nat.reduceMul, Nat.reduceLeDiff, Nat.reduceSub, Nat.reduceLT, Int.reduceToNat, Int.reduceLT, Int.reduceLE, reduceCtorEq]
        repeat' ((first | refine FK_split (fun h_ => ?_) (fun h_ => ?_) | refine GK_split (fun h_ => ?_) (fun h_ => ?_) | refine ite_both (fun h_ => ?_) (fun h_ => ?_)) <;> (try simp only [decide_eq_true_eq, decide_eq_false_iff_not, Bool.not_true, Bool.not_false, Bool.not_eq_true', Bool.not_eq_false', Bool.not_eq_eq_eq_not, Decidable.not_not] at h_) <;> (try simp only [vC, r14_16, hP, qc, h_, go_sem, Int.reduceTMod, Int.reduceTDiv, Int.reduceDiv, Int.reduceMod, Int.reduceAdd, Int.reduceSub, Int.reduceMul, Int.reduceNeg, Int.reducePow, Int.reduceEq, ↓reduceIte, Nat.reduceEqDiff, Nat.reduceAdd, Nat.reduceMul, Nat.reduceLeDiff, Nat.reduceSub, Nat.reduceLT, Int.reduceToNat, Int.reduceLT, Int.reduceLE, reduceCtorEq]))
    cases hK : badK op sg
    · have hk1 : ¬ sg.k < 1 := fun h => by simp [badK, h] at hK
      have hk2 : ¬ 5 < sg.k := fun h => by simp [badK, h] at hK
      have hz : M 0 = some ⟨needC, o⟩ := by rw [qm 0 hn]; exact h0
      have hz0 : (0 = N) = False := eq_false (by omega)
      have q11' := q11
      rw [hr1] at q11'
      obtain ⟨k, a, b, c⟩ := sg
      simp only at hk1 hk2 tail
      have lo : ∀ id, id < n → (id = N) = False ∧ (id = N + 1) = False ∧ (id = N + 2) = False ∧ (id = N + 3) = False := fun id h => ⟨eq_false (by omega), eq_false (by omega), eq_false (by omega), eq_false (by omega)⟩
      rcases kinds hk1 hk2 with hk | hk | hk | hk | hk <;> cases op <;> (first | (exfalso; simp [badK, hk] at hK; done) | skip)
      all_goals
        try simp only [r14_0, r14_1, r14_2, r14_3, r14_4, r14_5, r14_6, r14_7, r14_8, r14_9, r14_10, r14_11, r14_12, r14_13, r14_14, r14_15, r14_16, r14_17, r14_18, r14_19, c14, F14, l14_1, q13, q12, q11', q3, c2, c3, hrd, hk, Int.toNat_natCast, go_sem, Int.reduceTMod, Int.reduceTDiv, Int.reduceDiv, Int.reduceMod, Int.reduceAdd, Int.reduceSub, Int.reduceMul, Int.reduceNeg, Int.reducePow, Int.reduceEq, ↓reduceIte, Nat.reduceEqDiff, Nat.reduceAdd, Nat.reduceMul, Nat.reduceLeDiff, Nat.reduceSub, Nat.reduceLT, Int.reduceToNat, Int.reduceLT, Int.reduceLE, reduceCtorEq]
        repeat' ((first | refine FK_split (fun h_ => ?_) (fun h_ => ?_) | refine GK_split (fun h_ => ?_) (fun h_ => ?_) | refine ite_both (fun h_ => ?_) (fun h_ => ?_)) <;> (try simp only [decide_eq_true_eq, decide_eq_false_iff_not, Bool.not_true, Bool.not_false, Bool.not_eq_true', Bool.not_eq_false', Bool.not_eq_eq_eq_not, Decidable.not_not] at h_) <;> (try simp only [r14_0, r14_1, r14_2, r14_3, r14_4, r14_5, r14_6, r14_7, r14_8, r14_9, r14_10, r14_11, r14_12, r14_13, r14_14, r14_15, r14_16, r14_17, r14_18, r14_19, c14, F14, l14_1, q13, q12, q11', q3, c2, c3, hrd, hk, Int.toNat_natCast, h_, go_sem, Int.reduceTMod, Int.reduceTDiv, Int.reduceDiv, Int.reduceMod, Int.reduceAdd, Int.reduceSub, Int.reduceMul, Int.reduceNeg, Int.reducePow, Int.reduceEq, ↓reduceIte, Nat.reduceEqDiff, Nat.reduceAdd, Nat.reduceMul, Nat.reduceLeDiff, Nat.reduceSub, Nat.reduceLT, Int.reduceToNat, Int.reduceLT, Int.reduceLE, reduceCtorEq]))
        try simp only [r14_7, r14_8, r14_9, r14_10, r14_11, r14_12, r14_13, r14_14, l14_0, XK_loop, hz, hz0, v_Need, needC_flat, hk, need1, need2, need3, need4, need5, go_sem, Int.reduceTMod, Int.reduceTDiv, Int.reduceDiv, Int.reduceMod, Int.reduceAdd, Int.reduceSub, Int.reduceMul, Int.reduceNeg, Int.reducePow, Int.reduceEq, ↓reduceIte, Nat.reduceEqDiff, Nat.reduceAdd, Nat.reduceMul, Nat.reduceLeDiff, Nat.reduceSub, Nat.reduceLT, Int.reduceToNat, Int.reduceLT, Int.reduceLE, reduceCtorEq]
        repeat' ((first | refine FK_split (fun h_ => ?_) (fun h_ => ?_) | refine GK_split (fun h_ => ?_) (fun h_ => ?_) | refine ite_both (fun h_ => ?_) (fun h_ => ?_)) <;> (try simp only [decide_eq_true_eq, decide_eq_false_iff_not, Bool.not_true, Bool.not_false, Bool.not_eq_true', Bool.not_eq_false', Bool.not_eq_eq_eq_not, Decidable.not_not] at h_) <;> (try simp only [r14_7, r14_8, r14_9, r14_10, r14_11, r14_12, r14_13, r14_14, l14_0, XK_loop, hz, hz0, v_Need, needC_flat, hk, need1, need2, need3, need4, need5, h_, go_sem, Int.reduceTMod, Int.reduceTDiv, Int.reduceDiv, Int.reduceMod, Int.reduceAdd, Int.reduceSub, Int.reduceMul, Int.reduceNeg, Int.reducePow, Int.reduceEq, ↓reduceIte, Nat.reduceEqDiff, Nat.reduceAdd, Nat.reduceMul, Nat.reduceLeDiff, Nat.reduceSub, Nat.reduceLT, Int.reduceToNat, Int.reduceLT, Int.reduceLE, reduceCtorEq]))
      all_goals first
        | (rw [hP, qc]
           have hU : badU ⟨k, a, b, c⟩ = true := by simp [badU, Sg.pts, hk, need1, need2, need3, need4, need5, zP, *]
           simp only [chkS, hK, hU, Bool.false_eq_true, if_false, if_true]
           rfl)
        | (have hU : badU ⟨k, a, b, c⟩ = false := by simp [badU, Sg.pts, hk, need1, need2, need3, need4, need5, zP, *]
           refine tail _ _ _ N ?_ ?_ ?_ ?_ ?_ ?_ ?_ ?_ ?_ hk1 hk2 hK hU
           · simp only [q13, go_sem, Int.reduceTMod, Int.reduceTDiv, Int.reduceDiv, Int.reduceMod, Int.reduceAdd, Int.reduceSub, Int.reduceMul, Int.reduceNeg, Int.reducePow, Int.reduceEq, ↓reduceIte, Nat.reduceEqDiff, Nat.reduceAdd, Nat.reduceMul, Nat.reduceLeDiff, Nat.reduceSub, Nat.reduceLT, Int.reduceToNat, Int.reduceLT, Int.reduceLE, reduceCtorEq]
           · simp only [q12, go_sem, Int.reduceTMod, Int.reduceTDiv, Int.reduceDiv, Int.reduceMod, Int.reduceAdd, Int.reduceSub, Int.reduceMul, Int.reduceNeg, Int.reducePow, Int.reduceEq, ↓reduceIte, Nat.reduceEqDiff, Nat.reduceAdd, Nat.reduceMul, Nat.reduceLeDiff, Nat.reduceSub, Nat.reduceLT, Int.reduceToNat, Int.reduceLT, Int.reduceLE, reduceCtorEq]
           · simp only [q11, go_sem, Int.reduceTMod, Int.reduceTDiv, Int.reduceDiv, Int.reduceMod, Int.reduceAdd, Int.reduceSub, Int.reduceMul, Int.reduceNeg, Int.reducePow, Int.reduceEq, ↓reduceIte, Nat.reduceEqDiff, Nat.reduceAdd, Nat.reduceMul, Nat.reduceLeDiff, Nat.reduceSub, Nat.reduceLT, Int.reduceToNat, Int.reduceLT, Int.reduceLE, reduceCtorEq]
           · simp only [go_sem, Int.reduceTMod, Int.reduceTDiv, Int.reduceDiv, Int.reduceMod, Int.reduceAdd, Int.reduceSub, Int.reduceMul, Int.reduceNeg, Int.reducePow, Int.reduceEq, ↓reduceIte, Nat.reduceEqDiff, Nat.reduceAdd, Nat.reduceMul, Nat.reduceLeDiff, Nat.reduceSub, Nat.reduceLT, Int.reduceToNat, Int.reduceLT, Int.reduceLE, reduceCtorEq]
           · omega
           · intro id hid
             obtain ⟨z1, z2, z3, z4⟩ := lo id hid
             simp only [z1, z2, z3, z4, if_false, go_sem, Int.reduceTMod, Int.reduceTDiv, Int.reduceDiv, Int.reduceMod, Int.reduceAdd, Int.reduceSub, Int.reduceMul, Int.reduceNeg, Int.reducePow, Int.reduceEq, ↓reduceIte, Nat.reduceEqDiff, Nat.reduceAdd, Nat.reduceMul, Nat.reduceLeDiff, Nat.reduceSub, Nat.reduceLT, Int.reduceToNat, Int.reduceLT, Int.reduceLE, reduceCtorEq]
             exact qm id hid
           · omega
           · exact qn
           · simp only [hk, go_sem, Int.reduceTMod, Int.reduceTDiv, Int.reduceDiv, Int.reduceMod, Int.reduceAdd, Int.reduceSub, Int.reduceMul, Int.reduceNeg, Int.reducePow, Int.reduceEq, ↓reduceIte, Nat.reduceEqDiff, Nat.reduceAdd, Nat.reduceMul, Nat.reduceLeDiff, Nat.reduceSub, Nat.reduceLT, Int.reduceToNat, Int.reduceLT, Int.reduceLE, reduceCtorEq])
    · have e : chkP l = 33 := by
        rw [hP, qc]
        simp only [chkS, hK, if_true]
        rfl
      have q11' := q11
      rw [hr1] at q11'
      by_cases h1 : sg.k < 1
      · skip
        try simp only [r14_0, r14_1, r14_2, r14_3, r14_4, r14_5, r14_6, r14_7, r14_8, r14_9, r14_10, r14_11, r14_12, r14_13, r14_14, r14_15, r14_16, r14_17, r14_18, r14_19, c14, F14, l14_1, q13, q12, q11', q3, c2, c3, hrd, h1, e, Int.toNat_natCast, go_sem, Int.reduceTMod, Int.reduceTDiv, Int.reduceDiv, Int.reduceMod, Int.reduceAdd, Int.reduceSub, Int.reduceMul, Int.reduceNeg, Int.reducePow, Int.reduceEq, ↓reduceIte, Nat.reduceEqDiff, Nat.reduceAdd, Nat.reduceMul, Nat.reduceLeDiff, Nat.reduceSub, Nat.reduceLT, Int.reduceToNat, Int.reduceLT, Int.reduceLE, reduceCtorEq]
        repeat' ((first | refine FK_split (fun h_ => ?_) (fun h_ => ?_) | refine GK_split (fun h_ => ?_) (fun h_ => ?_) | refine ite_both (fun h_ => ?_) (fun h_ => ?_)) <;> (try simp only [decide_eq_true_eq, decide_eq_false_iff_not, Bool.not_true, Bool.not_false, Bool.not_eq_true', Bool.not_eq_false', Bool.not_eq_eq_eq_not, Decidable.not_not] at h_) <;> (try simp only [r14_0, r14_1, r14_2, r14_3, r14_4, r14_5, r14_6, r14_7, r14_8, r14_9, r14_10, r14_11, r14_12, r14_13, r14_14, r14_15, r14_16, r14_17, r14_18, r14_19, c14, F14, l14_1, q13, q12, q11', q3, c2, c3, hrd, h1, e, Int.toNat_natCast, h_, go_sem, Int.reduceTMod, Int.reduceTDiv, Int.reduceDiv, Int.reduceMod, Int.reduceAdd, Int.reduceSub, Int.reduceMul, Int.reduceNeg, Int.reducePow, Int.reduceEq, ↓reduceIte, Nat.reduceEqDiff, Nat.reduceAdd, Nat.reduceMul, Nat.reduceLeDiff, Nat.reduceSub, Nat.reduceLT, Int.reduceToNat, Int.reduceLT, Int.reduceLE, reduceCtorEq]))
      by_cases h2 : 5 < sg.k
      · skip
        try simp only [r14_0, r14_1, r14_2, r14_3, r14_4, r14_5, r14_6, r14_7, r14_8, r14_9, r14_10, r14_11, r14_12, r14_13, r14_14, r14_15, r14_16, r14_17, r14_18, r14_19, c14, F14, l14_1, q13, q12, q11', q3, c2, c3, hrd, h1, h2, e, Int.toNat_natCast, go_sem, Int.reduceTMod, Int.reduceTDiv, Int.reduceDiv, Int.reduceMod, Int.reduceAdd, Int.reduceSub, Int.reduceMul, Int.reduceNeg, Int.reducePow, Int.reduceEq, ↓reduceIte, Nat.reduceEqDiff, Nat.reduceAdd, Nat.reduceMul, Nat.reduceLeDiff, Nat.reduceSub, Nat.reduceLT, Int.reduceToNat, Int.reduceLT, Int.reduceLE, reduceCtorEq]
        repeat' ((first | refine FK_split (fun h_ => ?_) (fun h_ => ?_) | refine GK_split (fun h_ => ?_) (fun h_ => ?_) | refine ite_both (fun h_ => ?_) (fun h_ => ?_)) <;> (try simp only [decide_eq_true_eq, decide_eq_false_iff_not, Bool.not_true, Bool.not_false, Bool.not_eq_true', Bool.not_eq_false', Bool.not_eq_eq_eq_not, Decidable.not_not] at h_) <;> (try simp only [r14_0, r14_1, r14_2, r14_3, r14_4, r14_5, r14_6, r14_7, r14_8, r14_9, r14_10, r14_11, r14_12, r14_13, r14_14, r14_15, r14_16, r14_17, r14_18, r14_19, c14, F14, l14_1, q13, q12, q11', q3, c2, c3, hrd, h1, h2, e, Int.toNat_natCast, h_, go_sem, Int.reduceTMod, Int.reduceTDiv, Int.reduceDiv, Int.reduceMod, Int.reduceAdd, Int.reduceSub, Int.reduceMul, Int.reduceNeg, Int.reducePow, Int.reduceEq, ↓reduceIte, Nat.reduceEqDiff, Nat.reduceAdd, Nat.reduceMul, Nat.reduceLeDiff, Nat.reduceSub, Nat.reduceLT, Int.reduceToNat, Int.reduceLT, Int.reduceLE, reduceCtorEq]))
      cases op
      · have h3 : ¬ sg.k = 1 := fun h => by simp [badK, h] at hK
        try simp only [r14_0, r14_1, r14_2, r14_3, r14_4, r14_5, r14_6, r14_7, r14_8, r14_9, r14_10, r14_11, r14_12, r14_13, r14_14, r14_15, r14_16, r14_17, r14_18, r14_19, c14, F14, l14_1, q13, q12, q11', q3, c2, c3, hrd, h1, h2, h3, e, Int.toNat_natCast, go_sem, Int.reduceTMod, Int.reduceTDiv, Int.reduceDiv, Int.reduceMod, Int.reduceAdd, Int.reduceSub, Int.reduceMul, Int.reduceNeg, Int.reducePow, Int.reduceEq, ↓reduceIte, Nat.reduceEqDiff, Nat.reduceAdd, Nat.reduceMul, Nat.reduceLeDiff, Nat.reduceSub, Nat.reduceLT, Int.reduceToNat, Int.reduceLT, Int.reduceLE, reduceCtorEq]
        repeat' ((first | refine FK_split (fun h_ => ?_) (fun h_ => ?_) | refine GK_split (fun h_ => ?_) (fun h_ => ?_) | refine ite_both (fun h_ => ?_) (fun h_ => ?_)) <;> (try simp only [decide_eq_true_eq, decide_eq_false_iff_not, Bool.not_true, Bool.not_false, Bool.not_eq_true', Bool.not_eq_false', Bool.not_eq_eq_eq_not, Decidable.not_not] at h_) <;> (try simp only [r14_0, r14_1, r14_2, r14_3, r14_4, r14_5, r14_6, r14_7, r14_8, r14_9, r14_10, r14_11, r14_12, r14_13, r14_14, r14_15, r14_16, r14_17, r14_18, r14_19, c14, F14, l14_1, q13, q12, q11', q3, c2, c3, hrd, h1, h2, h3, e, Int.toNat_natCast, h_, go_sem, Int.reduceTMod, Int.reduceTDiv, Int.reduceDiv, Int.reduceMod, Int.reduceAdd, Int.reduceSub, Int.reduceMul, Int.reduceNeg, Int.reducePow, Int.reduceEq, ↓reduceIte, Nat.reduceEqDiff, Nat.reduceAdd, Nat.reduceMul, Nat.reduceLeDiff, Nat.reduceSub, Nat.reduceLT, Int.reduceToNat, Int.reduceLT, Int.reduceLE, reduceCtorEq]))
      · simp [badK, h1, h2] at hK
  · obtain ⟨e, M, N⟩ := s
    obtain ⟨op, q13, q12, q11, q3, qn, qm, qc⟩ := hs
    simp only at q13 q12 q11 q3 qn qm
    have c2 : ((l.length : Int) < (l.length : Int)) = False := eq_false (by omega)
    rw [List.drop_length] at qc
    have e0 : chkP l = 0 := by rw [hP, qc]; rfl
    try simp only [r14_0, r14_1, r14_2, r14_3, r14_4, r14_5, r14_6, r14_7, r14_8, r14_9, r14_10, r14_11, r14_12, r14_13, r14_14, r14_15, r14_16, r14_17, r14_18, r14_19, c14, F14, l14_1, q13, q12, c2, e0, go_sem, Int.reduceTMod, Int.reduceTDiv, Int.reduceDiv, Int.reduceMod, Int.reduceAdd, Int.reduceSub, Int.reduceMul, Int.reduceNeg, Int.reducePow, Int.reduceEq, ↓reduceIte, Nat.reduceEqDiff, Nat.reduceAdd, Nat.reduceMul, Nat.reduceLeDiff, Nat.reduceSub, Nat.reduceLT, Int.reduceToNat, Int.reduceLT, Int.reduceLE, reduceCtorEq]
    repeat' ((first | refine FK_split (fun h_ => ?_) (fun h_ => ?_) | refine GK_split (fun h_ => ?_) (fun h_ => ?_) | refine ite_both (fun h_ => ?_) (fun h_ => ?_)) <;> (try simp only [decide_eq_true_eq, decide_eq_false_iff_not, Bool.not_true, Bool.not_false, Bool.not_eq_true', Bool.not_eq_false', Bool.not_eq_eq_eq_not, Decidable.not_not] at h_) <;> (try simp only [r14_0, r14_1, r14_2, r14_3, r14_4, r14_5, r14_6, r14_7, r14_8, r14_9, r14_10, r14_11, r14_12, r14_13, r14_14, r14_15, r14_16, r14_17, r14_18, r14_19, c14, F14, l14_1, q13, q12, c2, e0, h_, go_sem, Int.reduceTMod, Int.reduceTDiv, Int.reduceDiv, Int.reduceMod, Int.reduceAdd, Int.reduceSub, Int.reduceMul, Int.reduceNeg, Int.reducePow, Int.reduceEq, ↓reduceIte, Nat.reduceEqDiff, Nat.reduceAdd, Nat.reduceMul, Nat.reduceLeDiff, Nat.reduceSub, Nat.reduceLT, Int.reduceToNat, Int.reduceLT, Int.reduceLE, reduceCtorEq]))
  · simp only [go_sem, Int.reduceTMod, Int.reduceTDiv, Int.reduceDiv, Int.reduceMod, Int.reduceAdd, Int.reduceSub, Int.reduceMul, Int.reduceNeg, Int.reducePow, Int.reduceEq, ↓reduceIte, Nat.reduceEqDiff, Nat.reduceAdd, Nat.reduceMul, Nat.reduceLeDiff, Nat.reduceSub, Nat.reduceLT, Int.reduceToNat, Int.reduceLT, Int.reduceLE, reduceCtorEq]
  · simp only [go_sem, Int.reduceTMod, Int.reduceTDiv, Int.reduceDiv, Int.reduceMod, Int.reduceAdd, Int.reduceSub, Int.reduceMul, Int.reduceNeg, Int.reducePow, Int.reduceEq, ↓reduceIte, Nat.reduceEqDiff, Nat.reduceAdd, Nat.reduceMul, Nat.reduceLeDiff, Nat.reduceSub, Nat.reduceLT, Int.reduceToNat, Int.reduceLT, Int.reduceLE, reduceCtorEq]
  · simp only [go_sem, Int.reduceTMod, Int.reduceTDiv, Int.reduceDiv, Int.reduceMod, Int.reduceAdd, Int.reduceSub, Int.reduceMul, Int.reduceNeg, Int.reducePow, Int.reduceEq, ↓reduceIte, Nat.reduceEqDiff, Nat.reduceAdd, Nat.reduceMul, Nat.reduceLeDiff, Nat.reduceSub, Nat.reduceLT, Int.reduceToNat, Int.reduceLT, Int.reduceLE, reduceCtorEq]
  · simp only [go_sem, Int.reduceTMod, Int.reduceTDiv, Int.reduceDiv, Int.reduceMod, Int.reduceAdd, Int.reduceSub, Int.reduceMul, Int.reduceNeg, Int.reducePow, Int.reduceEq, ↓reduceIte, Nat.reduceEqDiff, Nat.reduceAdd, Nat.reduceMul, Nat.reduceLeDiff, Nat.reduceSub, Nat.reduceLT, Int.reduceToNat, Int.reduceLT, Int.reduceLE, reduceCtorEq]

/- A path is right: the reference's check walked. Conditions: those that each theorem names. -/
open Go Go.Proofs
set_option linter.unusedSimpArgs false
set_option linter.unusedVariables false

def opAt (l : List Sg) : Nat → Bool
  | 0 => false
  | j + 1 => match l[j]? with
    | some s => !decide (s.k = 5)
    | none => false
set_option maxHeartbeats 4000000 in
theorem v_rCheck {r : Reg} {l : List Sg} {m : Mem} {n : Nat} (hr : RSg m n r l) : callF TA 11 [r] m n = some (RI (chkP l)) := by
  refine callF_of (Fn_ofK (fn := F11) rfl (by simp [F11]) ?_)
  have hlen := hr.len
  by_cases g : 4096 < (l.length : Int)
  · have e : chkP l = 36 := if_pos (by omega)
    try simp only [r11_0, r11_1, r11_2, r11_3, r11_4, r11_6, r11_7, r11_8, r11_9, r11_10, r11_12, r11_13, r11_11, r11_14, r11_15, r11_17, r11_18, r11_16, r11_5, r11_19, c11, F11, hlen, g, e, go_sem, Int.reduceTMod, Int.reduceTDiv, Int.reduceDiv, Int.reduceMod, Int.reduceAdd, Int.reduceSub, Int.reduceMul, Int.reduceNeg, Int.reducePow, Int.reduceEq, ↓reduceIte, Nat.reduceEqDiff, Nat.reduceAdd, Nat.reduceMul, Nat.reduceLeDiff, Nat.reduceSub, Nat.reduceLT, Int.reduceToNat, Int.reduceLT, Int.reduceLE, reduceCtorEq]
    repeat' ((first | refine FK_split (fun h_ => ?_) (fun h_ => ?_) | refine GK_split (fun h_ => ?_) (fun h_ => ?_) | refine ite_both (fun h_ => ?_) (fun h_ => ?_)) <;> (try simp only [decide_eq_true_eq, decide_eq_false_iff_not, Bool.not_true, Bool.not_false, Bool.not_eq_true', Bool.not_eq_false', Bool.not_eq_eq_eq_not, Decidable.not_not] at h_) <;> (try simp only [r11_0, r11_1, r11_2, r11_3, r11_4, r11_6, r11_7, r11_8, r11_9, r11_10, r11_12, r11_13, r11_11, r11_14, r11_15, r11_17, r11_18, r11_16, r11_5, r11_19, c11, F11, hlen, g, e, h_, go_sem, Int.reduceTMod, Int.reduceTDiv, Int.reduceDiv, Int.reduceMod, Int.reduceAdd, Int.reduceSub, Int.reduceMul, Int.reduceNeg, Int.reducePow, Int.reduceEq, ↓reduceIte, Nat.reduceEqDiff, Nat.reduceAdd, Nat.reduceMul, Nat.reduceLeDiff, Nat.reduceSub, Nat.reduceLT, Int.reduceToNat, Int.reduceLT, Int.reduceLE, reduceCtorEq]))
  have hP : chkP l = chkL false l := if_neg (by omega)
  try simp only [r11_0, r11_1, r11_2, r11_3, r11_4, r11_6, r11_7, r11_8, r11_9, r11_10, r11_12, r11_13, r11_11, r11_14, r11_15, r11_17, r11_18, r11_16, r11_5, r11_19, c11, F11, hlen, g, go_sem, Int.reduceTMod, Int.reduceTDiv, Int.reduceDiv, Int.reduceMod, Int.reduceAdd, Int.reduceSub, Int.reduceMul, Int.reduceNeg, Int.reducePow, Int.reduceEq, ↓reduceIte, Nat.reduceEqDiff, Nat.reduceAdd, Nat.reduceMul, Nat.reduceLeDiff, Nat.reduceSub, Nat.reduceLT, Int.reduceToNat, Int.reduceLT, Int.reduceLE, reduceCtorEq]
  repeat' ((first | refine FK_split (fun h_ => ?_) (fun h_ => ?_) | refine GK_split (fun h_ => ?_) (fun h_ => ?_) | refine ite_both (fun h_ => ?_) (fun h_ => ?_)) <;> (try simp only [decide_eq_true_eq, decide_eq_false_iff_not, Bool.not_true, Bool.not_false, Bool.not_eq_true', Bool.not_eq_false', Bool.not_eq_eq_eq_not, Decidable.not_not] at h_) <;> (try simp only [r11_0, r11_1, r11_2, r11_3, r11_4, r11_6, r11_7, r11_8, r11_9, r11_10, r11_12, r11_13, r11_11, r11_14, r11_15, r11_17, r11_18, r11_16, r11_5, r11_19, c11, F11, hlen, g, h_, go_sem, Int.reduceTMod, Int.reduceTDiv, Int.reduceDiv, Int.reduceMod, Int.reduceAdd, Int.reduceSub, Int.reduceMul, Int.reduceNeg, Int.reducePow, Int.reduceEq, ↓reduceIte, Nat.reduceEqDiff, Nat.reduceAdd, Nat.reduceMul, Nat.reduceLeDiff, Nat.reduceSub, Nat.reduceLT, Int.reduceToNat, Int.reduceLT, Int.reduceLE, reduceCtorEq]))
  refine XK_iter (inv := fun i s => s.e 3 = RI i ∧ s.e 0 = r ∧ n ≤ s.n ∧ (∀ id, id < n → s.m id = m id) ∧ chkL false l = chkL (opAt l i) (l.drop i)) l.length
    (fun L _ => ⟨fun i hi s hs next => ?_, fun s hs => ?_⟩) 0 (by omega) _ ⟨?_, ?_, Nat.le_refl _, fun _ _ => rfl, rfl⟩
  · obtain ⟨e, M, N⟩ := s
    obtain ⟨q3, q0, qn, qm, qc⟩ := hs
    simp only at q3 q0 qn qm
    have hp : l[i]? = some l[i] := List.getElem?_eq_getElem hi
    obtain ⟨id, off, cap, hr1, hid, hrd⟩ := (hr.keep qn qm).at cs7 hp
    have hop1 : opAt l (i + 1) = !decide (l[i].k = 5) := by simp only [opAt, hp]
    rw [chkL_at hp, ← hop1] at qc
    generalize l[i] = sg at *
    have c2 : ((i : Int) < (l.length : Int)) = True := eq_true (by omega)
    have c3 : (0 ≤ (i : Int)) = True := eq_true (by omega)
    have c7 : IntKind.i64.wrap ((i : Int) + 1) = ((i + 1 : Nat) : Int) := wr_nat (by omega)
    have q0' := q0
    rw [hr1] at q0' hlen
    -- the kind
    by_cases hk1 : sg.k < 1
    · have e33 : chkP l = 33 := by
        rw [hP, qc]
        simp [chkS, badK, hk1]
      try simp only [r11_0, r11_1, r11_2, r11_3, r11_4, r11_6, r11_7, r11_8, r11_9, r11_10, r11_12, r11_13, r11_11, r11_14, r11_15, r11_17, r11_18, r11_16, r11_5, r11_19, c11, F11, l11_0, l11_1, l11_2, q3, q0', hlen, c2, c3, hrd, hk1, e33, Int.toNat_natCast, go_sem, Int.reduceTMod, Int.reduceTDiv, Int.reduceDiv, Int.reduceMod, Int.reduceAdd, Int.reduceSub, Int.reduceMul, Int.reduceNeg, Int.reducePow, Int.reduceEq, ↓reduceIte, Nat.reduceEqDiff, Nat.reduceAdd, Nat.reduceMul, Nat.reduceLeDiff, Nat.reduceSub, Nat.reduceLT, Int.reduceToNat, Int.reduceLT, Int.reduceLE, reduceCtorEq]
      repeat' ((first | refine FK_split (fun h_ => ?_) (fun h_ => ?_) | refine GK_split (fun h_ => ?_) (fun h_ => ?_) | refine ite_both (fun h_ => ?_) (fun h_ => ?_)) <;> (try simp only [decide_eq_true_eq, decide_eq_false_iff_not, Bool.not_true, Bool.not_false, Bool.not_eq_true', Bool.not_eq_false', Bool.not_eq_eq_eq_not, Decidable.not_not] at h_) <;> (try simp only [r11_0, r11_1, r11_2, r11_3, r11_4, r11_6, r11_7, r11_8, r11_9, r11_10, r11_12, r11_13, r11_11, r11_14, r11_15, r11_17, r11_18, r11_16, r11_5, r11_19, c11, F11, l11_0, l11_1, l11_2, q3, q0', hlen, c2, c3, hrd, hk1, e33, Int.toNat_natCast, h_, go_sem, Int.reduceTMod, Int.reduceTDiv, Int.reduceDiv, Int.reduceMod, Int.reduceAdd, Int.reduceSub, Int.reduceMul, Int.reduceNeg, Int.reducePow, Int.reduceEq, ↓reduceIte, Nat.reduceEqDiff, Nat.reduceAdd, Nat.reduceMul, Nat.reduceLeDiff, Nat.reduceSub, Nat.reduceLT, Int.reduceToNat, Int.reduceLT, Int.reduceLE, reduceCtorEq]))
    by_cases hk2 : 5 < sg.k
    · have e33 : chkP l = 33 := by
        rw [hP, qc]
        simp [chkS, badK, hk2]
      try simp only [r11_0, r11_1, r11_2, r11_3, r11_4, r11_6, r11_7, r11_8, r11_9, r11_10, r11_12, r11_13, r11_11, r11_14, r11_15, r11_17, r11_18, r11_16, r11_5, r11_19, c11, F11, l11_0, l11_1, l11_2, q3, q0', hlen, c2, c3, hrd, hk1, hk2, e33, Int.toNat_natCast, go_sem, Int.reduceTMod, Int.reduceTDiv, Int.reduceDiv, Int.reduceMod, Int.reduceAdd, Int.reduceSub, Int.reduceMul, Int.reduceNeg, Int.reducePow, Int.reduceEq, ↓reduceIte, Nat.reduceEqDiff, Nat.reduceAdd, Nat.reduceMul, Nat.reduceLeDiff, Nat.reduceSub, Nat.reduceLT, Int.reduceToNat, Int.reduceLT, Int.reduceLE, reduceCtorEq]
      repeat' ((first | refine FK_split (fun h_ => ?_) (fun h_ => ?_) | refine GK_split (fun h_ => ?_) (fun h_ => ?_) | refine ite_both (fun h_ => ?_) (fun h_ => ?_)) <;> (try simp only [decide_eq_true_eq, decide_eq_false_iff_not, Bool.not_true, Bool.not_false, Bool.not_eq_true', Bool.not_eq_false', Bool.not_eq_eq_eq_not, Decidable.not_not] at h_) <;> (try simp only [r11_0, r11_1, r11_2, r11_3, r11_4, r11_6, r11_7, r11_8, r11_9, r11_10, r11_12, r11_13, r11_11, r11_14, r11_15, r11_17, r11_18, r11_16, r11_5, r11_19, c11, F11, l11_0, l11_1, l11_2, q3, q0', hlen, c2, c3, hrd, hk1, hk2, e33, Int.toNat_natCast, h_, go_sem, Int.reduceTMod, Int.reduceTDiv, Int.reduceDiv, Int.reduceMod, Int.reduceAdd, Int.reduceSub, Int.reduceMul, Int.reduceNeg, Int.reducePow, Int.reduceEq, ↓reduceIte, Nat.reduceEqDiff, Nat.reduceAdd, Nat.reduceMul, Nat.reduceLeDiff, Nat.reduceSub, Nat.reduceLT, Int.reduceToNat, Int.reduceLT, Int.reduceLE, reduceCtorEq]))
    have hpv : i ≠ 0 → ∃ (b : Blk) (sp : Sg), M id = some b ∧ b.cells[off + (i - 1) * 7]? = some (I sp.k) ∧ opAt l i = !decide (sp.k = 5) := by
      intro h
      obtain ⟨j, rfl⟩ : ∃ j, i = j + 1 := ⟨i - 1, by omega⟩
      have hp' : l[j]? = some l[j] := List.getElem?_eq_getElem (by omega)
      obtain ⟨id', off', cap', hr1', _, hrd'⟩ := (hr.keep qn qm).at cs7 hp'
      rw [hr1] at hr1'
      simp only [Reg.one.injEq, Cell.sl.injEq, true_and, and_true] at hr1'
      obtain ⟨rfl, rfl, _⟩ := hr1'
      obtain ⟨b, h1, h2⟩ := rd_cell hrd' (a := 0) (c := I l[j].k) rfl
      exact ⟨b, l[j], h1, by simpa using h2, by simp only [opAt, hp']⟩
    have lo : ∀ id, id < n → (id = N) = False := fun id h => eq_false (by omega)
    have hend : ∀ s' : St, s'.e 3 = RI ((i + 1 : Nat) : Int) → s'.e 0 = r → N ≤ s'.n → (∀ id, id < n → s'.m id = m id) → badK (opAt l i) sg = false → badU sg = false → badR sg = false → XK TA (.loop L) s' (Kt.blk 0 (Kt.seq ((SC.reg r11_19).seq SC.ret) (Kt.fin [SRes.tmp 2] fun r x x_1 => r = RI (chkP l)))) := by
      intro s' p3 p0 pn pm hK hU hR
      have e5 : chkS (opAt l i) sg = 0 := by unfold chkS; rw [hK, hU, hR]; rfl
      rw [e5, if_pos rfl] at qc
      exact next s' ⟨p3, p0, by omega, pm, qc⟩
    have h33 : badK (opAt l i) sg = false → badU sg = true → chkP l = 33 := fun hK hU => by
      rw [hP, qc]
      simp only [chkS, hK, hU, Bool.false_eq_true, if_false, if_true]
      rfl
    have h30 : badK (opAt l i) sg = false → badU sg = false → badR sg = true → chkP l = 30 := fun hK hU hR => by
      rw [hP, qc]
      simp only [chkS, hK, hU, hR, Bool.false_eq_true, if_false, if_true]
      rfl
    have hopt : (i = 0 ∧ opAt l i = false) ∨ (i ≠ 0 ∧ ∃ (b : Blk) (pk : Int), M id = some b ∧ b.cells[off + (i - 1) * 7]? = some (I pk) ∧ opAt l i = !decide (pk = 5)) := by
      by_cases hi0 : i = 0
      · exact Or.inl ⟨hi0, by rw [hi0]; rfl⟩
      · obtain ⟨b, sp, h1, h2, h3⟩ := hpv hi0
        exact Or.inr ⟨hi0, b, sp.k, h1, h2, h3⟩
    clear hpv next
    obtain ⟨k, a, b, c⟩ := sg
    simp only at hk1 hk2 hop1
    rcases hopt with ⟨hi0, hop⟩ | ⟨hi0, pb, pk, hpb, hpc, hop⟩
    · have ci : ((i : Int) = 0) = True := eq_true (by omega)
      rw [hop] at hend h33 h30 qc
      by_cases hk : k = 1
      · have hK : badK false ⟨k, a, b, c⟩ = false := by simp [badK, hk]
        try simp only [r11_0, r11_1, r11_2, r11_3, r11_4, r11_6, r11_7, r11_8, r11_9, r11_10, r11_12, r11_13, r11_11, r11_14, r11_15, r11_17, r11_18, r11_16, r11_5, r11_19, c11, F11, l11_2, q3, q0', hlen, c2, c3, hrd, hk, Int.toNat_natCast, go_sem, Int.reduceTMod, Int.reduceTDiv, Int.reduceDiv, Int.reduceMod, Int.reduceAdd, Int.reduceSub, Int.reduceMul, Int.reduceNeg, Int.reducePow, Int.reduceEq, ↓reduceIte, Nat.reduceEqDiff, Nat.reduceAdd, Nat.reduceMul, Nat.reduceLeDiff, Nat.reduceSub, Nat.reduceLT, Int.reduceToNat, Int.reduceLT, Int.reduceLE, reduceCtorEq]
        repeat' ((first | refine FK_split (fun h_ => ?_) (fun h_ => ?_) | refine GK_split (fun h_ => ?_) (fun h_ => ?_) | refine ite_both (fun h_ => ?_) (fun h_ => ?_)) <;> (try simp only [decide_eq_true_eq, decide_eq_false_iff_not, Bool.not_true, Bool.not_false, Bool.not_eq_true', Bool.not_eq_false', Bool.not_eq_eq_eq_not, Decidable.not_not] at h_) <;> (try simp only [r11_0, r11_1, r11_2, r11_3, r11_4, r11_6, r11_7, r11_8, r11_9, r11_10, r11_12, r11_13, r11_11, r11_14, r11_15, r11_17, r11_18, r11_16, r11_5, r11_19, c11, F11, l11_2, q3, q0', hlen, c2, c3, hrd, hk, Int.toNat_natCast, h_, go_sem, Int.reduceTMod, Int.reduceTDiv, Int.reduceDiv, Int.reduceMod, Int.reduceAdd, Int.reduceSub, Int.reduceMul, Int.reduceNeg, Int.reducePow, Int.reduceEq, ↓reduceIte, Nat.reduceEqDiff, Nat.reduceAdd, Nat.reduceMul, Nat.reduceLeDiff, Nat.reduceSub, Nat.reduceLT, Int.reduceToNat, Int.reduceLT, Int.reduceLE, reduceCtorEq]))
        try simp only [r11_0, r11_1, r11_2, r11_3, r11_4, r11_6, r11_7, r11_8, r11_9, r11_10, r11_12, r11_13, r11_11, r11_14, r11_15, r11_17, r11_18, r11_16, r11_5, r11_19, c11, F11, l11_0, l11_1, XK_loop, v_rNeed, v_rIn, hk, need1, c7, q3, go_sem, Int.reduceTMod, Int.reduceTDiv, Int.reduceDiv, Int.reduceMod, Int.reduceAdd, Int.reduceSub, Int.reduceMul, Int.reduceNeg, Int.reducePow, Int.reduceEq, ↓reduceIte, Nat.reduceEqDiff, Nat.reduceAdd, Nat.reduceMul, Nat.reduceLeDiff, Nat.reduceSub, Nat.reduceLT, Int.reduceToNat, Int.reduceLT, Int.reduceLE, reduceCtorEq]
        repeat' ((first | refine FK_split (fun h_ => ?_) (fun h_ => ?_) | refine GK_split (fun h_ => ?_) (fun h_ => ?_) | refine ite_both (fun h_ => ?_) (fun h_ => ?_)) <;> (try simp only [decide_eq_true_eq, decide_eq_false_iff_not, Bool.not_true, Bool.not_false, Bool.not_eq_true', Bool.not_eq_false', Bool.not_eq_eq_eq_not, Decidable.not_not] at h_) <;> (try simp only [r11_0, r11_1, r11_2, r11_3, r11_4, r11_6, r11_7, r11_8, r11_9, r11_10, r11_12, r11_13, r11_11, r11_14, r11_15, r11_17, r11_18, r11_16, r11_5, r11_19, c11, F11, l11_0, l11_1, XK_loop, v_rNeed, v_rIn, hk, need1, c7, q3, h_, go_sem, Int.reduceTMod, Int.reduceTDiv, Int.reduceDiv, Int.reduceMod, Int.reduceAdd, Int.reduceSub, Int.reduceMul, Int.reduceNeg, Int.reducePow, Int.reduceEq, ↓reduceIte, Nat.reduceEqDiff, Nat.reduceAdd, Nat.reduceMul, Nat.reduceLeDiff, Nat.reduceSub, Nat.reduceLT, Int.reduceToNat, Int.reduceLT, Int.reduceLE, reduceCtorEq]))
        all_goals first
          | (rw [h33 hK (by simp [badU, Sg.pts, hk, need1, need2, need3, need4, need5, zP, *])]; done)
          | (rw [h30 hK (by simp [badU, Sg.pts, hk, need1, need2, need3, need4, need5, zP, *]) (by simp [badR, Sg.pts, hk, need1, need2, need3, need4, need5, inP, *])]; done)
          | (rw [← XK_loop]; refine hend _ ?_ ?_ ?_ ?_ hK (by simp [badU, Sg.pts, hk, need1, need2, need3, need4, need5, zP, *]) (by simp [badR, Sg.pts, hk, need1, need2, need3, need4, need5, inP, *])
             · simp only [go_sem, Int.reduceTMod, Int.reduceTDiv, Int.reduceDiv, Int.reduceMod, Int.reduceAdd, Int.reduceSub, Int.reduceMul, Int.reduceNeg, Int.reducePow, Int.reduceEq, ↓reduceIte, Nat.reduceEqDiff, Nat.reduceAdd, Nat.reduceMul, Nat.reduceLeDiff, Nat.reduceSub, Nat.reduceLT, Int.reduceToNat, Int.reduceLT, Int.reduceLE, reduceCtorEq]
             · simp only [q0, go_sem, Int.reduceTMod, Int.reduceTDiv, Int.reduceDiv, Int.reduceMod, Int.reduceAdd, Int.reduceSub, Int.reduceMul, Int.reduceNeg, Int.reducePow, Int.reduceEq, ↓reduceIte, Nat.reduceEqDiff, Nat.reduceAdd, Nat.reduceMul, Nat.reduceLeDiff, Nat.reduceSub, Nat.reduceLT, Int.reduceToNat, Int.reduceLT, Int.reduceLE, reduceCtorEq]
             · simp only; omega
             · intro id hid
               simp only [lo id hid, if_false, go_sem, Int.reduceTMod, Int.reduceTDiv, Int.reduceDiv, Int.reduceMod, Int.reduceAdd, Int.reduceSub, Int.reduceMul, Int.reduceNeg, Int.reducePow, Int.reduceEq, ↓reduceIte, Nat.reduceEqDiff, Nat.reduceAdd, Nat.reduceMul, Nat.reduceLeDiff, Nat.reduceSub, Nat.reduceLT, Int.reduceToNat, Int.reduceLT, Int.reduceLE, reduceCtorEq]
               exact qm id hid)
      · have e33 : chkP l = 33 := by
          rw [hP, qc]
          simp [chkS, badK, hk]
        try simp only [r11_0, r11_1, r11_2, r11_3, r11_4, r11_6, r11_7, r11_8, r11_9, r11_10, r11_12, r11_13, r11_11, r11_14, r11_15, r11_17, r11_18, r11_16, r11_5, r11_19, c11, F11, l11_2, q3, q0', hlen, c2, c3, ci, hrd, hk1, hk2, hk, e33, Int.toNat_natCast, go_sem, Int.reduceTMod, Int.reduceTDiv, Int.reduceDiv, Int.reduceMod, Int.reduceAdd, Int.reduceSub, Int.reduceMul, Int.reduceNeg, Int.reducePow, Int.reduceEq, ↓reduceIte, Nat.reduceEqDiff, Nat.reduceAdd, Nat.reduceMul, Nat.reduceLeDiff, Nat.reduceSub, Nat.reduceLT, Int.reduceToNat, Int.reduceLT, Int.reduceLE, reduceCtorEq]
        repeat' ((first | refine FK_split (fun h_ => ?_) (fun h_ => ?_) | refine GK_split (fun h_ => ?_) (fun h_ => ?_) | refine ite_both (fun h_ => ?_) (fun h_ => ?_)) <;> (try simp only [decide_eq_true_eq, decide_eq_false_iff_not, Bool.not_true, Bool.not_false, Bool.not_eq_true', Bool.not_eq_false', Bool.not_eq_eq_eq_not, Decidable.not_not] at h_) <;> (try simp only [r11_0, r11_1, r11_2, r11_3, r11_4, r11_6, r11_7, r11_8, r11_9, r11_10, r11_12, r11_13, r11_11, r11_14, r11_15, r11_17, r11_18, r11_16, r11_5, r11_19, c11, F11, l11_2, q3, q0', hlen, c2, c3, ci, hrd, hk1, hk2, hk, e33, Int.toNat_natCast, h_, go_sem, Int.reduceTMod, Int.reduceTDiv, Int.reduceDiv, Int.reduceMod, Int.reduceAdd, Int.reduceSub, Int.reduceMul, Int.reduceNeg, Int.reducePow, Int.reduceEq, ↓reduceIte, Nat.reduceEqDiff, Nat.reduceAdd, Nat.reduceMul, Nat.reduceLeDiff, Nat.reduceSub, Nat.reduceLT, Int.reduceToNat, Int.reduceLT, Int.reduceLE, reduceCtorEq]))
    · have ci : ((i : Int) = 0) = False := eq_false (by omega)
      have ci1 : IntKind.i64.wrap ((i : Int) - 1) = ((i - 1 : Nat) : Int) := (wr_eq (by omega) (by omega)).trans (by omega)
      have ci2 : (0 ≤ ((i - 1 : Nat) : Int)) = True := eq_true (by omega)
      have ci3 : (((i - 1 : Nat) : Int) < (l.length : Int)) = True := eq_true (by omega)
      have hidN : (id = N) = False := eq_false (by omega)
      rw [hop] at hend h33 h30 qc
      by_cases hpk : pk = 5
      · rw [show (!decide (pk = 5)) = false by simp [hpk]] at hend h33 h30 qc
        rw [hpk] at hpc
        by_cases hk : k = 1
        · have hK : badK false ⟨k, a, b, c⟩ = false := by simp [badK, hk]
          try simp only [r11_0, r11_1, r11_2, r11_3, r11_4, r11_6, r11_7, r11_8, r11_9, r11_10, r11_12, r11_13, r11_11, r11_14, r11_15, r11_17, r11_18, r11_16, r11_5, r11_19, c11, F11, l11_2, q3, q0', hlen, c2, c3, hrd, hk, Int.toNat_natCast, go_sem, Int.reduceTMod, Int.reduceTDiv, Int.reduceDiv, Int.reduceMod, Int.reduceAdd, Int.reduceSub, Int.reduceMul, Int.reduceNeg, Int.reducePow, Int.reduceEq, ↓reduceIte, Nat.reduceEqDiff, Nat.reduceAdd, Nat.reduceMul, Nat.reduceLeDiff, Nat.reduceSub, Nat.reduceLT, Int.reduceToNat, Int.reduceLT, Int.reduceLE, reduceCtorEq]
          repeat' ((first | refine FK_split (fun h_ => ?_) (fun h_ => ?_) | refine GK_split (fun h_ => ?_) (fun h_ => ?_) | refine ite_both (fun h_ => ?_) (fun h_ => ?_)) <;> (try simp only [decide_eq_true_eq, decide_eq_false_iff_not, Bool.not_true, Bool.not_false, Bool.not_eq_true', Bool.not_eq_false', Bool.not_eq_eq_eq_not, Decidable.not_not] at h_) <;> (try simp only [r11_0, r11_1, r11_2, r11_3, r11_4, r11_6, r11_7, r11_8, r11_9, r11_10, r11_12, r11_13, r11_11, r11_14, r11_15, r11_17, r11_18, r11_16, r11_5, r11_19, c11, F11, l11_2, q3, q0', hlen, c2, c3, hrd, hk, Int.toNat_natCast, h_, go_sem, Int.reduceTMod, Int.reduceTDiv, Int.reduceDiv, Int.reduceMod, Int.reduceAdd, Int.reduceSub, Int.reduceMul, Int.reduceNeg, Int.reducePow, Int.reduceEq, ↓reduceIte, Nat.reduceEqDiff, Nat.reduceAdd, Nat.reduceMul, Nat.reduceLeDiff, Nat.reduceSub, Nat.reduceLT, Int.reduceToNat, Int.reduceLT, Int.reduceLE, reduceCtorEq]))
          try simp only [r11_0, r11_1, r11_2, r11_3, r11_4, r11_6, r11_7, r11_8, r11_9, r11_10, r11_12, r11_13, r11_11, r11_14, r11_15, r11_17, r11_18, r11_16, r11_5, r11_19, c11, F11, l11_0, l11_1, XK_loop, v_rNeed, v_rIn, hk, need1, c7, q3, go_sem, Int.reduceTMod, Int.reduceTDiv, Int.reduceDiv, Int.reduceMod, Int.reduceAdd, Int.reduceSub, Int.reduceMul, Int.reduceNeg, Int.reducePow, Int.reduceEq, ↓reduceIte, Nat.reduceEqDiff, Nat.reduceAdd, Nat.reduceMul, Nat.reduceLeDiff, Nat.reduceSub, Nat.reduceLT, Int.reduceToNat, Int.reduceLT, Int.reduceLE, reduceCtorEq]
          repeat' ((first | refine FK_split (fun h_ => ?_) (fun h_ => ?_) | refine GK_split (fun h_ => ?_) (fun h_ => ?_) | refine ite_both (fun h_ => ?_) (fun h_ => ?_)) <;> (try simp only [decide_eq_true_eq, decide_eq_false_iff_not, Bool.not_true, Bool.not_false, Bool.not_eq_true', Bool.not_eq_false', Bool.not_eq_eq_eq_not, Decidable.not_not] at h_) <;> (try simp only [r11_0, r11_1, r11_2, r11_3, r11_4, r11_6, r11_7, r11_8, r11_9, r11_10, r11_12, r11_13, r11_11, r11_14, r11_15, r11_17, r11_18, r11_16, r11_5, r11_19, c11, F11, l11_0, l11_1, XK_loop, v_rNeed, v_rIn, hk, need1, c7, q3, h_, go_sem, Int.reduceTMod, Int.reduceTDiv, Int.reduceDiv, Int.reduceMod, Int.reduceAdd, Int.reduceSub, Int.reduceMul, Int.reduceNeg, Int.reducePow, Int.reduceEq, ↓reduceIte, Nat.reduceEqDiff, Nat.reduceAdd, Nat.reduceMul, Nat.reduceLeDiff, Nat.reduceSub, Nat.reduceLT, Int.reduceToNat, Int.reduceLT, Int.reduceLE, reduceCtorEq]))
          all_goals first
            | (rw [h33 hK (by simp [badU, Sg.pts, hk, need1, need2, need3, need4, need5, zP, *])]; done)
            | (rw [h30 hK (by simp [badU, Sg.pts, hk, need1, need2, need3, need4, need5, zP, *]) (by simp [badR, Sg.pts, hk, need1, need2, need3, need4, need5, inP, *])]; done)
            | (rw [← XK_loop]; refine hend _ ?_ ?_ ?_ ?_ hK (by simp [badU, Sg.pts, hk, need1, need2, need3, need4, need5, zP, *]) (by simp [badR, Sg.pts, hk, need1, need2, need3, need4, need5, inP, *])
               · simp only [go_sem, Int.reduceTMod, Int.reduceTDiv, Int.reduceDiv, Int.reduceMod, Int.reduceAdd, Int.reduceSub, Int.reduceMul, Int.reduceNeg, Int.reducePow, Int.reduceEq, ↓reduceIte, Nat.reduceEqDiff, Nat.reduceAdd, Nat.reduceMul, Nat.reduceLeDiff, Nat.reduceSub, Nat.reduceLT, Int.reduceToNat, Int.reduceLT, Int.reduceLE, reduceCtorEq]
               · simp only [q0, go_sem, Int.reduceTMod, Int.reduceTDiv, Int.reduceDiv, Int.reduceMod, Int.reduceAdd, Int.reduceSub, Int.reduceMul, Int.reduceNeg, Int.reducePow, Int.reduceEq, ↓reduceIte, Nat.reduceEqDiff, Nat.reduceAdd, Nat.reduceMul, Nat.reduceLeDiff, Nat.reduceSub, Nat.reduceLT, Int.reduceToNat, Int.reduceLT, Int.reduceLE, reduceCtorEq]
               · simp only; omega
               · intro id hid
                 simp only [lo id hid, if_false, go_sem, Int.reduceTMod, Int.reduceTDiv, Int.reduceDiv, Int.reduceMod, Int.reduceAdd, Int.reduceSub, Int.reduceMul, Int.reduceNeg, Int.reducePow, Int.reduceEq, ↓reduceIte, Nat.reduceEqDiff, Nat.reduceAdd, Nat.reduceMul, Nat.reduceLeDiff, Nat.reduceSub, Nat.reduceLT, Int.reduceToNat, Int.reduceLT, Int.reduceLE, reduceCtorEq]
                 exact qm id hid)
        · have e33 : chkP l = 33 := by
            rw [hP, qc]
            simp [chkS, badK, hk]
          try simp only [r11_0, r11_1, r11_2, r11_3, r11_4, r11_6, r11_7, r11_8, r11_9, r11_10, r11_12, r11_13, r11_11, r11_14, r11_15, r11_17, r11_18, r11_16, r11_5, r11_19, c11, F11, l11_2, q3, q0', hlen, c2, c3, ci, ci1, ci2, ci3, hidN, hpb, hpc, hrd, hk1, hk2, hk, e33, Int.toNat_natCast, go_sem, Int.reduceTMod, Int.reduceTDiv, Int.reduceDiv, Int.reduceMod, Int.reduceAdd, Int.reduceSub, Int.reduceMul, Int.reduceNeg, Int.reducePow, Int.reduceEq, ↓reduceIte, Nat.reduceEqDiff, Nat.reduceAdd, Nat.reduceMul, Nat.reduceLeDiff, Nat.reduceSub, Nat.reduceLT, Int.reduceToNat, Int.reduceLT, Int.reduceLE, reduceCtorEq]
          repeat' ((first | refine FK_split (fun h_ => ?_) (fun h_ => ?_) | refine GK_split (fun h_ => ?_) (fun h_ => ?_) | refine ite_both (fun h_ => ?_) (fun h_ => ?_)) <;> (try simp only [decide_eq_true_eq, decide_eq_false_iff_not, Bool.not_true, Bool.not_false, Bool.not_eq_true', Bool.not_eq_false', Bool.not_eq_eq_eq_not, Decidable.not_not] at h_) <;> (try simp only [r11_0, r11_1, r11_2, r11_3, r11_4, r11_6, r11_7, r11_8, r11_9, r11_10, r11_12, r11_13, r11_11, r11_14, r11_15, r11_17, r11_18, r11_16, r11_5, r11_19, c11, F11, l11_2, q3, q0', hlen, c2, c3, ci, ci1, ci2, ci3, hidN, hpb, hpc, hrd, hk1, hk2, hk, e33, Int.toNat_natCast, h_, go_sem, Int.reduceTMod, Int.reduceTDiv, Int.reduceDiv, Int.reduceMod, Int.reduceAdd, Int.reduceSub, Int.reduceMul, Int.reduceNeg, Int.reducePow, Int.reduceEq, ↓reduceIte, Nat.reduceEqDiff, Nat.reduceAdd, Nat.reduceMul, Nat.reduceLeDiff, Nat.reduceSub, Nat.reduceLT, Int.reduceToNat, Int.reduceLT, Int.reduceLE, reduceCtorEq]))
      · rw [show (!decide (pk = 5)) = true by simp [hpk]] at hend h33 h30 qc
        have hK : badK true ⟨k, a, b, c⟩ = false := by simp [badK, hk1, hk2]
        rcases kinds hk1 hk2 with hk | hk | hk | hk | hk
        all_goals
          try simp only [r11_0, r11_1, r11_2, r11_3, r11_4, r11_6, r11_7, r11_8, r11_9, r11_10, r11_12, r11_13, r11_11, r11_14, r11_15, r11_17, r11_18, r11_16, r11_5, r11_19, c11, F11, l11_2, q3, q0', hlen, c2, c3, ci, ci1, ci2, ci3, hidN, hpb, hpc, hpk, hrd, hk, Int.toNat_natCast, go_sem, Int.reduceTMod, Int.reduceTDiv, Int.reduceDiv, Int.reduceMod, Int.reduceAdd, Int.reduceSub, Int.reduceMul, Int.reduceNeg, Int.reducePow, Int.reduceEq, ↓reduceIte, Nat.reduceEqDiff, Nat.reduceAdd, Nat.reduceMul, Nat.reduceLeDiff, Nat.reduceSub, Nat.reduceLT, Int.reduceToNat, Int.reduceLT, Int.reduceLE, reduceCtorEq]
          repeat' ((first | refine FK_split (fun h_ => ?_) (fun h_ => ?_) | refine GK_split (fun h_ => ?_) (fun h_ => ?_) | refine ite_both (fun h_ => ?_) (fun h_ => ?_)) <;> (try simp only [decide_eq_true_eq, decide_eq_false_iff_not, Bool.not_true, Bool.not_false, Bool.not_eq_true', Bool.not_eq_false', Bool.not_eq_eq_eq_not, Decidable.not_not] at h_) <;> (try simp only [r11_0, r11_1, r11_2, r11_3, r11_4, r11_6, r11_7, r11_8, r11_9, r11_10, r11_12, r11_13, r11_11, r11_14, r11_15, r11_17, r11_18, r11_16, r11_5, r11_19, c11, F11, l11_2, q3, q0', hlen, c2, c3, ci, ci1, ci2, ci3, hidN, hpb, hpc, hpk, hrd, hk, Int.toNat_natCast, h_, go_sem, Int.reduceTMod, Int.reduceTDiv, Int.reduceDiv, Int.reduceMod, Int.reduceAdd, Int.reduceSub, Int.reduceMul, Int.reduceNeg, Int.reducePow, Int.reduceEq, ↓reduceIte, Nat.reduceEqDiff, Nat.reduceAdd, Nat.reduceMul, Nat.reduceLeDiff, Nat.reduceSub, Nat.reduceLT, Int.reduceToNat, Int.reduceLT, Int.reduceLE, reduceCtorEq]))
          try simp only [r11_0, r11_1, r11_2, r11_3, r11_4, r11_6, r11_7, r11_8, r11_9, r11_10, r11_12, r11_13, r11_11, r11_14, r11_15, r11_17, r11_18, r11_16, r11_5, r11_19, c11, F11, l11_0, l11_1, XK_loop, v_rNeed, v_rIn, hk, need1, need2, need3, need4, need5, c7, q3, go_sem, Int.reduceTMod, Int.reduceTDiv, Int.reduceDiv, Int.reduceMod, Int.reduceAdd, Int.reduceSub, Int.reduceMul, Int.reduceNeg, Int.reducePow, Int.reduceEq, ↓reduceIte, Nat.reduceEqDiff, Nat.reduceAdd, Nat.reduceMul, Nat.reduceLeDiff, Nat.reduceSub, Nat.reduceLT, Int.reduceToNat, Int.reduceLT, Int.reduceLE, reduceCtorEq]
          repeat' ((first | refine FK_split (fun h_ => ?_) (fun h_ => ?_) | refine GK_split (fun h_ => ?_) (fun h_ => ?_) | refine ite_both (fun h_ => ?_) (fun h_ => ?_)) <;> (try simp only [decide_eq_true_eq, decide_eq_false_iff_not, Bool.not_true, Bool.not_false, Bool.not_eq_true', Bool.not_eq_false', Bool.not_eq_eq_eq_not, Decidable.not_not] at h_) <;> (try simp only [r11_0, r11_1, r11_2, r11_3, r11_4, r11_6, r11_7, r11_8, r11_9, r11_10, r11_12, r11_13, r11_11, r11_14, r11_15, r11_17, r11_18, r11_16, r11_5, r11_19, c11, F11, l11_0, l11_1, XK_loop, v_rNeed, v_rIn, hk, need1, need2, need3, need4, need5, c7, q3, h_, go_sem, Int.reduceTMod, Int.reduceTDiv, Int.reduceDiv, Int.reduceMod, Int.reduceAdd, Int.reduceSub, Int.reduceMul, Int.reduceNeg, Int.reducePow, Int.reduceEq, ↓reduceIte, Nat.reduceEqDiff, Nat.reduceAdd, Nat.reduceMul, Nat.reduceLeDiff, Nat.reduceSub, Nat.reduceLT, Int.reduceToNat, Int.reduceLT, Int.reduceLE, reduceCtorEq]))
        all_goals first
          | (rw [h33 hK (by simp [badU, Sg.pts, hk, need1, need2, need3, need4, need5, zP, *])]; done)
          | (rw [h30 hK (by simp [badU, Sg.pts, hk, need1, need2, need3, need4, need5, zP, *]) (by simp [badR, Sg.pts, hk, need1, need2, need3, need4, need5, inP, *])]; done)
          | (rw [← XK_loop]; refine hend _ ?_ ?_ ?_ ?_ hK (by simp [badU, Sg.pts, hk, need1, need2, need3, need4, need5, zP, *]) (by simp [badR, Sg.pts, hk, need1, need2, need3, need4, need5, inP, *])
             · simp only [go_sem, Int.reduceTMod, Int.reduceTDiv, Int.reduceDiv, Int.reduceMod, Int.reduceAdd, Int.reduceSub, Int.reduceMul, Int.reduceNeg, Int.reducePow, Int.reduceEq, ↓reduceIte, Nat.reduceEqDiff, Nat.reduceAdd, Nat.reduceMul, Nat.reduceLeDiff, Nat.reduceSub, Nat.reduceLT, Int.reduceToNat, Int.reduceLT, Int.reduceLE, reduceCtorEq]
             · simp only [q0, go_sem, Int.reduceTMod, Int.reduceTDiv, Int.reduceDiv, Int.reduceMod, Int.reduceAdd, Int.reduceSub, Int.reduceMul, Int.reduceNeg, Int.reducePow, Int.reduceEq, ↓reduceIte, Nat.reduceEqDiff, Nat.reduceAdd, Nat.reduceMul, Nat.reduceLeDiff, Nat.reduceSub, Nat.reduceLT, Int.reduceToNat, Int.reduceLT, Int.reduceLE, reduceCtorEq]
             · simp only; omega
             · intro id hid
               simp only [lo id hid, if_false, go_sem, Int.reduceTMod, Int.reduceTDiv, Int.reduceDiv, Int.reduceMod, Int.reduceAdd, Int.reduceSub, Int.reduceMul, Int.reduceNeg, Int.reducePow, Int.reduceEq, ↓reduceIte, Nat.reduceEqDiff, Nat.reduceAdd, Nat.reduceMul, Nat.reduceLeDiff, Nat.reduceSub, Nat.reduceLT, Int.reduceToNat, Int.reduceLT, Int.reduceLE, reduceCtorEq]
               exact qm id hid)
  · obtain ⟨e, M, N⟩ := s
    obtain ⟨q3, q0, qn, qm, qc⟩ := hs
    simp only at q3 q0 qn qm
    have c2 : ((l.length : Int) < (l.length : Int)) = False := eq_false (by omega)
    rw [List.drop_length] at qc
    have e0 : chkP l = 0 := by rw [hP, qc]; rfl
    try simp only [r11_0, r11_1, r11_2, r11_3, r11_4, r11_6, r11_7, r11_8, r11_9, r11_10, r11_12, r11_13, r11_11, r11_14, r11_15, r11_17, r11_18, r11_16, r11_5, r11_19, c11, F11, l11_2, q3, q0, hlen, c2, e0, go_sem, Int.reduceTMod, Int.reduceTDiv, Int.reduceDiv, Int.reduceMod, Int.reduceAdd, Int.reduceSub, Int.reduceMul, Int.reduceNeg, Int.reducePow, Int.reduceEq, ↓reduceIte, Nat.reduceEqDiff, Nat.reduceAdd, Nat.reduceMul, Nat.reduceLeDiff, Nat.reduceSub, Nat.reduceLT, Int.reduceToNat, Int.reduceLT, Int.reduceLE, reduceCtorEq]
    repeat' ((first | refine FK_split (fun h_ => ?_) (fun h_ => ?_) | refine GK_split (fun h_ => ?_) (fun h_ => ?_) | refine ite_both (fun h_ => ?_) (fun h_ => ?_)) <;> (try simp only [decide_eq_true_eq, decide_eq_false_iff_not, Bool.not_true, Bool.not_false, Bool.not_eq_true', Bool.not_eq_false', Bool.not_eq_eq_eq_not, Decidable.not_not] at h_) <;> (try simp only [r11_0, r11_1, r11_2, r11_3, r11_4, r11_6, r11_7, r11_8, r11_9, r11_10, r11_12, r11_13, r11_11, r11_14, r11_15, r11_17, r11_18, r11_16, r11_5, r11_19, c11, F11, l11_2, q3, q0, hlen, c2, e0, h_, go_sem, Int.reduceTMod, Int.reduceTDiv, Int.reduceDiv, Int.reduceMod, Int.reduceAdd, Int.reduceSub, Int.reduceMul, Int.reduceNeg, Int.reducePow, Int.reduceEq, ↓reduceIte, Nat.reduceEqDiff, Nat.reduceAdd, Nat.reduceMul, Nat.reduceLeDiff, Nat.reduceSub, Nat.reduceLT, Int.reduceToNat, Int.reduceLT, Int.reduceLE, reduceCtorEq]))
  · simp only [go_sem, Int.reduceTMod, Int.reduceTDiv, Int.reduceDiv, Int.reduceMod, Int.reduceAdd, Int.reduceSub, Int.reduceMul, Int.reduceNeg, Int.reducePow, Int.reduceEq, ↓reduceIte, Nat.reduceEqDiff, Nat.reduceAdd, Nat.reduceMul, Nat.reduceLeDiff, Nat.reduceSub, Nat.reduceLT, Int.reduceToNat, Int.reduceLT, Int.reduceLE, reduceCtorEq]
  · simp only [go_sem, Int.reduceTMod, Int.reduceTDiv, Int.reduceDiv, Int.reduceMod, Int.reduceAdd, Int.reduceSub, Int.reduceMul, Int.reduceNeg, Int.reducePow, Int.reduceEq, ↓reduceIte, Nat.reduceEqDiff, Nat.reduceAdd, Nat.reduceMul, Nat.reduceLeDiff, Nat.reduceSub, Nat.reduceLT, Int.reduceToNat, Int.reduceLT, Int.reduceLE, reduceCtorEq]

/- Segments copied as_ the reference's; two paths are one; the law PathChecks walked. Conditions: those that each theorem names. -/
open Go Go.Proofs
set_option linter.unusedSimpArgs false
set_option linter.unusedVariables false

abbrev OSg := OL Sg.cs 7
theorem take_snoc {α : Type} {l : List α} {i : Nat} {p : α} (hp : l[i]? = some p) : l.take (i + 1) = l.take i ++ [p] := by
  rw [List.take_add_one, hp]; rfl
theorem rd_same {m m' : Mem} {id off k : Nat} (h : m' id = m id) : rd m' id off k = rd m id off k := by
  unfold rd; rw [h]
theorem OL.sidge {α : Type} {enc : α → List Cell} {sz base : Nat} {m : Mem} {n : Nat} {r : Reg} {l : List α} (h : OL enc sz base m n r l) {id : Nat} (hi : sid r = some id) : base ≤ id := by
  rcases h with ⟨rfl, _⟩ | ⟨i, rfl, h1, _, _⟩
  · cases hi
  · simp only [sid, Option.some.injEq] at hi
    omega
set_option maxHeartbeats 1000000 in
theorem w_ref {r : Reg} {l : List Sg} {m : Mem} {n : Nat} (hr : RSg m n r l) (hl : l.length < 4294967296) :
    Fn TA 12 [r] m n (fun r' m' n' => OSg n m' n' r' l ∧ n ≤ n') := by
  refine Fn_ofK (fn := F12) rfl (by simp [F12]) ?_
  have hlen := hr.len
  try simp only [r12_0, r12_1, r12_2, r12_3, r12_4, r12_5, r12_6, r12_7, r12_8, r12_9, r12_10, r12_11, r12_12, r12_13, c12, F12, hlen, go_sem, Int.reduceTMod, Int.reduceTDiv, Int.reduceDiv, Int.reduceMod, Int.reduceAdd, Int.reduceSub, Int.reduceMul, Int.reduceNeg, Int.reducePow, Int.reduceEq, ↓reduceIte, Nat.reduceEqDiff, Nat.reduceAdd, Nat.reduceMul, Nat.reduceLeDiff, Nat.reduceSub, Nat.reduceLT, Int.reduceToNat, Int.reduceLT, Int.reduceLE, reduceCtorEq]
  repeat' ((first | refine FK_split (fun h_ => ?_) (fun h_ => ?_) | refine GK_split (fun h_ => ?_) (fun h_ => ?_) | refine ite_both (fun h_ => ?_) (fun h_ => ?_)) <;> (try simp only [decide_eq_true_eq, decide_eq_false_iff_not, Bool.not_true, Bool.not_false, Bool.not_eq_true', Bool.not_eq_false', Bool.not_eq_eq_eq_not, Decidable.not_not] at h_) <;> (try simp only [r12_0, r12_1, r12_2, r12_3, r12_4, r12_5, r12_6, r12_7, r12_8, r12_9, r12_10, r12_11, r12_12, r12_13, c12, F12, hlen, h_, go_sem, Int.reduceTMod, Int.reduceTDiv, Int.reduceDiv, Int.reduceMod, Int.reduceAdd, Int.reduceSub, Int.reduceMul, Int.reduceNeg, Int.reducePow, Int.reduceEq, ↓reduceIte, Nat.reduceEqDiff, Nat.reduceAdd, Nat.reduceMul, Nat.reduceLeDiff, Nat.reduceSub, Nat.reduceLT, Int.reduceToNat, Int.reduceLT, Int.reduceLE, reduceCtorEq]))
  refine XK_iter (inv := fun i s => s.e 11 = RI i ∧ s.e 10 = RI l.length ∧ s.e 9 = r ∧ n ≤ s.n ∧ (∀ id, id < n → s.m id = m id) ∧ OSg n s.m s.n (s.e 3) (l.take i)) l.length
    (fun L _ => ⟨fun i hi s hs next => ?_, fun s hs => ?_⟩) 0 (by omega) _ ?_
  · obtain ⟨e, M, N⟩ := s
    obtain ⟨q11, q10, q9, qn, qm, qo⟩ := hs
    simp only at q11 q10 q9 qn qm qo
    have hp : l[i]? = some l[i] := List.getElem?_eq_getElem hi
    obtain ⟨id, off, cap, hr1, hid, hrd⟩ := hr.at cs7 hp
    generalize l[i] = p at *
    have c2 : ((i : Int) < (l.length : Int)) = True := eq_true (by omega)
    have c3 : (0 ≤ (i : Int)) = True := eq_true (by omega)
    have c7 : IntKind.i64.wrap ((i : Int) + 1) = ((i + 1 : Nat) : Int) := wr_nat (by omega)
    have q9' := q9
    rw [hr1] at q9'
    rw [← rd_same (qm id hid)] at hrd
    have hidN : id < N := by omega
    have n1 := na_0 hidN
    try simp only [r12_0, r12_1, r12_2, r12_3, r12_4, r12_5, r12_6, r12_7, r12_8, r12_9, r12_10, r12_11, r12_12, r12_13, c12, F12, l12_1, q11, q10, q9', c2, c3, c7, hrd, n1, Int.toNat_natCast, go_sem, Int.reduceTMod, Int.reduceTDiv, Int.reduceDiv, Int.reduceMod, Int.reduceAdd, Int.reduceSub, Int.reduceMul, Int.reduceNeg, Int.reducePow, Int.reduceEq, ↓reduceIte, Nat.reduceEqDiff, Nat.reduceAdd, Nat.reduceMul, Nat.reduceLeDiff, Nat.reduceSub, Nat.reduceLT, Int.reduceToNat, Int.reduceLT, Int.reduceLE, reduceCtorEq]
    repeat' ((first | refine FK_split (fun h_ => ?_) (fun h_ => ?_) | refine GK_split (fun h_ => ?_) (fun h_ => ?_) | refine ite_both (fun h_ => ?_) (fun h_ => ?_)) <;> (try simp only [decide_eq_true_eq, decide_eq_false_iff_not, Bool.not_true, Bool.not_false, Bool.not_eq_true', Bool.not_eq_false', Bool.not_eq_eq_eq_not, Decidable.not_not] at h_) <;> (try simp only [r12_0, r12_1, r12_2, r12_3, r12_4, r12_5, r12_6, r12_7, r12_8, r12_9, r12_10, r12_11, r12_12, r12_13, c12, F12, l12_1, q11, q10, q9', c2, c3, c7, hrd, n1, Int.toNat_natCast, h_, go_sem, Int.reduceTMod, Int.reduceTDiv, Int.reduceDiv, Int.reduceMod, Int.reduceAdd, Int.reduceSub, Int.reduceMul, Int.reduceNeg, Int.reducePow, Int.reduceEq, ↓reduceIte, Nat.reduceEqDiff, Nat.reduceAdd, Nat.reduceMul, Nat.reduceLeDiff, Nat.reduceSub, Nat.reduceLT, Int.reduceToNat, Int.reduceLT, Int.reduceLE, reduceCtorEq]))
    try simp only [r12_0, r12_1, r12_2, r12_3, r12_4, r12_5, r12_6, r12_7, r12_8, r12_9, r12_10, r12_11, r12_12, r12_13, c12, F12, l12_0, XK_loop, go_sem, Int.reduceTMod, Int.reduceTDiv, Int.reduceDiv, Int.reduceMod, Int.reduceAdd, Int.reduceSub, Int.reduceMul, Int.reduceNeg, Int.reducePow, Int.reduceEq, ↓reduceIte, Nat.reduceEqDiff, Nat.reduceAdd, Nat.reduceMul, Nat.reduceLeDiff, Nat.reduceSub, Nat.reduceLT, Int.reduceToNat, Int.reduceLT, Int.reduceLE, reduceCtorEq]
    repeat' ((first | refine FK_split (fun h_ => ?_) (fun h_ => ?_) | refine GK_split (fun h_ => ?_) (fun h_ => ?_) | refine ite_both (fun h_ => ?_) (fun h_ => ?_)) <;> (try simp only [decide_eq_true_eq, decide_eq_false_iff_not, Bool.not_true, Bool.not_false, Bool.not_eq_true', Bool.not_eq_false', Bool.not_eq_eq_eq_not, Decidable.not_not] at h_) <;> (try simp only [r12_0, r12_1, r12_2, r12_3, r12_4, r12_5, r12_6, r12_7, r12_8, r12_9, r12_10, r12_11, r12_12, r12_13, c12, F12, l12_0, XK_loop, h_, go_sem, Int.reduceTMod, Int.reduceTDiv, Int.reduceDiv, Int.reduceMod, Int.reduceAdd, Int.reduceSub, Int.reduceMul, Int.reduceNeg, Int.reducePow, Int.reduceEq, ↓reduceIte, Nat.reduceEqDiff, Nat.reduceAdd, Nat.reduceMul, Nat.reduceLeDiff, Nat.reduceSub, Nat.reduceLT, Int.reduceToNat, Int.reduceLT, Int.reduceLE, reduceCtorEq]))
    refine K_push cs7 (by decide) (p := p) (o := true) qo (by omega) (fun id h1 h2 => by simp only [na_0 h2, na_ne h2, go_sem, Int.reduceTMod, Int.reduceTDiv, Int.reduceDiv, Int.reduceMod, Int.reduceAdd, Int.reduceSub, Int.reduceMul, Int.reduceNeg, Int.reducePow, Int.reduceEq, ↓reduceIte, Nat.reduceEqDiff, Nat.reduceAdd, Nat.reduceMul, Nat.reduceLeDiff, Nat.reduceSub, Nat.reduceLT, Int.reduceToNat, Int.reduceLT, Int.reduceLE, reduceCtorEq]) (by simp only [go_sem, Int.reduceTMod, Int.reduceTDiv, Int.reduceDiv, Int.reduceMod, Int.reduceAdd, Int.reduceSub, Int.reduceMul, Int.reduceNeg, Int.reducePow, Int.reduceEq, ↓reduceIte, Nat.reduceEqDiff, Nat.reduceAdd, Nat.reduceMul, Nat.reduceLeDiff, Nat.reduceSub, Nat.reduceLT, Int.reduceToNat, Int.reduceLT, Int.reduceLE, reduceCtorEq]) (by rw [List.length_take]; omega) (by omega) ?_
    intro r' m' ho h1 h2
    try simp only [r12_0, r12_1, r12_2, r12_3, r12_4, r12_5, r12_6, r12_7, r12_8, r12_9, r12_10, r12_11, r12_12, r12_13, c12, F12, q11, q10, q9, c7, go_sem, Int.reduceTMod, Int.reduceTDiv, Int.reduceDiv, Int.reduceMod, Int.reduceAdd, Int.reduceSub, Int.reduceMul, Int.reduceNeg, Int.reducePow, Int.reduceEq, ↓reduceIte, Nat.reduceEqDiff, Nat.reduceAdd, Nat.reduceMul, Nat.reduceLeDiff, Nat.reduceSub, Nat.reduceLT, Int.reduceToNat, Int.reduceLT, Int.reduceLE, reduceCtorEq]
    repeat' ((first | refine FK_split (fun h_ => ?_) (fun h_ => ?_) | refine GK_split (fun h_ => ?_) (fun h_ => ?_) | refine ite_both (fun h_ => ?_) (fun h_ => ?_)) <;> (try simp only [decide_eq_true_eq, decide_eq_false_iff_not, Bool.not_true, Bool.not_false, Bool.not_eq_true', Bool.not_eq_false', Bool.not_eq_eq_eq_not, Decidable.not_not] at h_) <;> (try simp only [r12_0, r12_1, r12_2, r12_3, r12_4, r12_5, r12_6, r12_7, r12_8, r12_9, r12_10, r12_11, r12_12, r12_13, c12, F12, q11, q10, q9, c7, h_, go_sem, Int.reduceTMod, Int.reduceTDiv, Int.reduceDiv, Int.reduceMod, Int.reduceAdd, Int.reduceSub, Int.reduceMul, Int.reduceNeg, Int.reducePow, Int.reduceEq, ↓reduceIte, Nat.reduceEqDiff, Nat.reduceAdd, Nat.reduceMul, Nat.reduceLeDiff, Nat.reduceSub, Nat.reduceLT, Int.reduceToNat, Int.reduceLT, Int.reduceLE, reduceCtorEq]))
    refine next _ ⟨?_, ?_, ?_, ?_, ?_, ?_⟩
    · simp only [go_sem, Int.reduceTMod, Int.reduceTDiv, Int.reduceDiv, Int.reduceMod, Int.reduceAdd, Int.reduceSub, Int.reduceMul, Int.reduceNeg, Int.reducePow, Int.reduceEq, ↓reduceIte, Nat.reduceEqDiff, Nat.reduceAdd, Nat.reduceMul, Nat.reduceLeDiff, Nat.reduceSub, Nat.reduceLT, Int.reduceToNat, Int.reduceLT, Int.reduceLE, reduceCtorEq]
    · simp only [q10, go_sem, Int.reduceTMod, Int.reduceTDiv, Int.reduceDiv, Int.reduceMod, Int.reduceAdd, Int.reduceSub, Int.reduceMul, Int.reduceNeg, Int.reducePow, Int.reduceEq, ↓reduceIte, Nat.reduceEqDiff, Nat.reduceAdd, Nat.reduceMul, Nat.reduceLeDiff, Nat.reduceSub, Nat.reduceLT, Int.reduceToNat, Int.reduceLT, Int.reduceLE, reduceCtorEq]
    · simp only [q9, go_sem, Int.reduceTMod, Int.reduceTDiv, Int.reduceDiv, Int.reduceMod, Int.reduceAdd, Int.reduceSub, Int.reduceMul, Int.reduceNeg, Int.reducePow, Int.reduceEq, ↓reduceIte, Nat.reduceEqDiff, Nat.reduceAdd, Nat.reduceMul, Nat.reduceLeDiff, Nat.reduceSub, Nat.reduceLT, Int.reduceToNat, Int.reduceLT, Int.reduceLE, reduceCtorEq]
    · simp only [go_sem, Int.reduceTMod, Int.reduceTDiv, Int.reduceDiv, Int.reduceMod, Int.reduceAdd, Int.reduceSub, Int.reduceMul, Int.reduceNeg, Int.reducePow, Int.reduceEq, ↓reduceIte, Nat.reduceEqDiff, Nat.reduceAdd, Nat.reduceMul, Nat.reduceLeDiff, Nat.reduceSub, Nat.reduceLT, Int.reduceToNat, Int.reduceLT, Int.reduceLE, reduceCtorEq]
      omega
    · intro id hid
      simp only
      rw [h1 id hid]
      simp only [na_0 (show id < N by omega), na_ne (show id < N by omega), qm id hid, go_sem, Int.reduceTMod, Int.reduceTDiv, Int.reduceDiv, Int.reduceMod, Int.reduceAdd, Int.reduceSub, Int.reduceMul, Int.reduceNeg, Int.reducePow, Int.reduceEq, ↓reduceIte, Nat.reduceEqDiff, Nat.reduceAdd, Nat.reduceMul, Nat.reduceLeDiff, Nat.reduceSub, Nat.reduceLT, Int.reduceToNat, Int.reduceLT, Int.reduceLE, reduceCtorEq]
    · simp only [go_sem, Int.reduceTMod, Int.reduceTDiv, Int.reduceDiv, Int.reduceMod, Int.reduceAdd, Int.reduceSub, Int.reduceMul, Int.reduceNeg, Int.reducePow, Int.reduceEq, ↓reduceIte, Nat.reduceEqDiff, Nat.reduceAdd, Nat.reduceMul, Nat.reduceLeDiff, Nat.reduceSub, Nat.reduceLT, Int.reduceToNat, Int.reduceLT, Int.reduceLE, reduceCtorEq]
      rw [take_snoc hp]
      exact ho
  · obtain ⟨e, M, N⟩ := s
    obtain ⟨q11, q10, q9, qn, qm, qo⟩ := hs
    simp only at q11 q10 q9 qn qm qo
    have c2 : ((l.length : Int) < (l.length : Int)) = False := eq_false (by omega)
    rw [List.take_length] at qo
    try simp only [r12_0, r12_1, r12_2, r12_3, r12_4, r12_5, r12_6, r12_7, r12_8, r12_9, r12_10, r12_11, r12_12, r12_13, c12, F12, l12_0, l12_1, q11, q10, c2, go_sem, Int.reduceTMod, Int.reduceTDiv, Int.reduceDiv, Int.reduceMod, Int.reduceAdd, Int.reduceSub, Int.reduceMul, Int.reduceNeg, Int.reducePow, Int.reduceEq, ↓reduceIte, Nat.reduceEqDiff, Nat.reduceAdd, Nat.reduceMul, Nat.reduceLeDiff, Nat.reduceSub, Nat.reduceLT, Int.reduceToNat, Int.reduceLT, Int.reduceLE, reduceCtorEq]
    repeat' ((first | refine FK_split (fun h_ => ?_) (fun h_ => ?_) | refine GK_split (fun h_ => ?_) (fun h_ => ?_) | refine ite_both (fun h_ => ?_) (fun h_ => ?_)) <;> (try simp only [decide_eq_true_eq, decide_eq_false_iff_not, Bool.not_true, Bool.not_false, Bool.not_eq_true', Bool.not_eq_false', Bool.not_eq_eq_eq_not, Decidable.not_not] at h_) <;> (try simp only [r12_0, r12_1, r12_2, r12_3, r12_4, r12_5, r12_6, r12_7, r12_8, r12_9, r12_10, r12_11, r12_12, r12_13, c12, F12, l12_0, l12_1, q11, q10, c2, h_, go_sem, Int.reduceTMod, Int.reduceTDiv, Int.reduceDiv, Int.reduceMod, Int.reduceAdd, Int.reduceSub, Int.reduceMul, Int.reduceNeg, Int.reducePow, Int.reduceEq, ↓reduceIte, Nat.reduceEqDiff, Nat.reduceAdd, Nat.reduceMul, Nat.reduceLeDiff, Nat.reduceSub, Nat.reduceLT, Int.reduceToNat, Int.reduceLT, Int.reduceLE, reduceCtorEq]))
    exact ⟨qo, qn⟩
  · simp only [List.take_zero, go_sem, Int.reduceTMod, Int.reduceTDiv, Int.reduceDiv, Int.reduceMod, Int.reduceAdd, Int.reduceSub, Int.reduceMul, Int.reduceNeg, Int.reducePow, Int.reduceEq, ↓reduceIte, Nat.reduceEqDiff, Nat.reduceAdd, Nat.reduceMul, Nat.reduceLeDiff, Nat.reduceSub, Nat.reduceLT, Int.reduceToNat, Int.reduceLT, Int.reduceLE, reduceCtorEq]
    exact ⟨by omega, fun _ _ => trivial, OL.nil⟩

/- Boxes; rows put together, cloned, with a part replaced. Conditions: those that each theorem names. -/
open Go Go.Proofs
set_option linter.unusedSimpArgs false
set_option linter.unusedVariables false

structure Bx where
  x0 : Int
  y0 : Int
  x1 : Int
  y1 : Int
abbrev Bx.cs (b : Bx) : List Cell := [I b.x0, I b.y0, I b.x1, I b.y1]
abbrev Bx.r (b : Bx) : Reg := .agg [I b.x0, I b.y0, I b.x1, I b.y1]
def Bx.has (b : Bx) (p : Pt) : Bool := decide (b.x0 ≤ p.x) && (decide (p.x < b.x1) && (decide (b.y0 ≤ p.y) && decide (p.y < b.y1)))
/-- A row behind a row of the call's own. -/
theorem K_catL {T : Nat → Option SFun} {α : Type} {enc : α → List Cell} {sz : Nat} (hsz : ∀ x, (enc x).length = sz) {base n0 n nx : Nat} {m0 m : Mem} {r0 x : Reg} {l xs : List α} {by' : Nat} {d : Option Nat} {os : List SOper} {e : Nat → Reg} {k : Kt}
    (ho : OL enc sz base m0 n0 r0 l) (hn : n0 ≤ n) (hm : ∀ id, base ≤ id → id < n0 → m id = m0 id) (hx : RL enc sz m nx x xs) (hsm : l.length + xs.length ≤ 4294967296) (hbase : base ≤ n)
    (next : ∀ r' m' n', n ≤ n' → OL enc sz base m' n' r' (l ++ xs) → (∀ id, id < n → sid r0 ≠ some id → m' id = m id) → RK T os (putE e d r') m' n' k) :
    ThenK T d os e k (evApp m n sz by' r0 x) := by
  have hnews : newsOf m sz x = some (xs.length, xs.flatMap enc) := by
    rcases hx with ⟨rfl, rfl⟩ | ⟨ix, off, cap, rfl, _, h3⟩
    · rfl
    · simp only [newsOf, if_true, h3, Option.map_some]
  rcases ho with ⟨rfl, rfl⟩ | ⟨id, rfl, h2, h3, h4⟩
  · simp only [evApp, hnews]
    by_cases hx0 : xs = []
    · subst hx0
      simp only [List.length_nil, if_true]
      exact next _ _ _ (Nat.le_refl _) (Or.inl ⟨rfl, rfl⟩) (fun _ _ _ => rfl)
    · have hpos := List.length_pos_iff.2 hx0
      rw [if_neg (by omega), if_pos (by simp only [List.length_nil] at hsm; omega)]
      exact next _ _ _ (Nat.le_succ _) (Or.inr ⟨n, by simp, hbase, by omega, by rw [upd_same]; simp⟩) (fun i hi _ => upd_ne _ _ (by omega))
  · have h5 : m id = some ⟨l.flatMap enc, true⟩ := by rw [hm id h2 h3]; exact h4
    have hl := flatMap_len enc sz hsz l
    have h6 : rd m id 0 (l.length * sz) = some (l.flatMap enc) := by
      rw [rd_of h5]
      unfold rdB
      rw [if_pos (by rw [hl]; omega), List.drop_zero, ← hl, List.take_length]
    simp only [evApp, hnews, if_true, h5, h6, Option.map_some, true_and, if_pos hsm]
    exact next _ _ _ (Nat.le_succ _) (Or.inr ⟨n, by simp, hbase, by omega, by rw [upd_same]; simp⟩) (fun i hi hs => by rw [upd_ne _ _ (by omega), upd_ne _ _ (fun e => hs (by rw [e]; rfl))])
/-- A clone. -/
def CL (base : Nat) (m : Mem) (n : Nat) (r : Reg) (l : List Sg) : Prop :=
  (r = rnil ∧ l = []) ∨ ∃ id cap, r = .one (.sl id 0 l.length cap 7) ∧ base ≤ id ∧ id < n ∧ m id = some ⟨l.flatMap Sg.cs, true⟩ ∧ (cap = none ∨ l = [])
/-- A part of a row is another row: the reference's. -/
theorem w_With {r x : Reg} {l xs : List Sg} {a dr : Nat} {m : Mem} {n : Nat} (hr : RSg m n r l) (hx : RSg m n x xs) (ha : a + dr ≤ l.length) (hl : l.length + xs.length < 4294967296) :
    Fn TA 21 [r, RI a, RI dr, x] m n (fun r' m' n' => OSg n m' n' r' (l.take a ++ xs ++ l.drop (a + dr)) ∧ n ≤ n') := by
  refine Fn_ofK (fn := F21) rfl (by simp [F21]) ?_
  have hlen := hr.len
  try simp only [r21_0, r21_1, r21_2, r21_3, r21_5, r21_4, r21_6, r21_7, r21_8, r21_10, r21_9, r21_11, c21, F21, go_sem, Int.reduceTMod, Int.reduceTDiv, Int.reduceDiv, Int.reduceMod, Int.reduceAdd, Int.reduceSub, Int.reduceMul, Int.reduceNeg, Int.reducePow, Int.reduceEq, ↓reduceIte, Nat.reduceEqDiff, Nat.reduceAdd, Nat.reduceMul, Nat.reduceLeDiff, Nat.reduceSub, Nat.reduceLT, Int.reduceToNat, Int.reduceLT, Int.reduceLE, reduceCtorEq]
  repeat' ((first | refine FK_split (fun h_ => ?_) (fun h_ => ?_) | refine GK_split (fun h_ => ?_) (fun h_ => ?_) | refine ite_both (fun h_ => ?_) (fun h_ => ?_)) <;> (try simp only [decide_eq_true_eq, decide_eq_false_iff_not, Bool.not_true, Bool.not_false, Bool.not_eq_true', Bool.not_eq_false', Bool.not_eq_eq_eq_not, Decidable.not_not] at h_) <;> (try simp only [r21_0, r21_1, r21_2, r21_3, r21_5, r21_4, r21_6, r21_7, r21_8, r21_10, r21_9, r21_11, c21, F21, h_, go_sem, Int.reduceTMod, Int.reduceTDiv, Int.reduceDiv, Int.reduceMod, Int.reduceAdd, Int.reduceSub, Int.reduceMul, Int.reduceNeg, Int.reducePow, Int.reduceEq, ↓reduceIte, Nat.reduceEqDiff, Nat.reduceAdd, Nat.reduceMul, Nat.reduceLeDiff, Nat.reduceSub, Nat.reduceLT, Int.reduceToNat, Int.reduceLT, Int.reduceLE, reduceCtorEq]))
  refine XK_iter (inv := fun i s => s.e 10 = RI i ∧ s.e 0 = r ∧ s.e 1 = RI a ∧ s.e 2 = RI dr ∧ s.e 3 = x ∧ n ≤ s.n ∧ (∀ id, id < n → s.m id = m id) ∧ OSg n s.m s.n (s.e 9) (l.take i)) a
    (fun L _ => ⟨fun i hi s hs next => ?_, fun s hs => ?_⟩) 0 (by omega) _ ?_
  · obtain ⟨e, M, N⟩ := s
    obtain ⟨q10, q0, q1, q2, q3, qn, qm, qo⟩ := hs
    simp only at q10 q0 q1 q2 q3 qn qm qo
    have hp : l[i]? = some l[i] := List.getElem?_eq_getElem (by omega)
    obtain ⟨id, off, cap, hr1, hid, hrd⟩ := (hr.keep qn qm).at cs7 hp
    generalize l[i] = p at *
    have c1 : ((i : Int) < (a : Int)) = True := eq_true (by omega)
    have c2 : ((i : Int) < (l.length : Int)) = True := eq_true (by omega)
    have c3 : (0 ≤ (i : Int)) = True := eq_true (by omega)
    have c7 : IntKind.i64.wrap ((i : Int) + 1) = ((i + 1 : Nat) : Int) := wr_nat (by omega)
    have q0' := q0
    rw [hr1] at q0'
    have n1 := na_0 hid
    try simp only [r21_0, r21_1, r21_2, r21_3, r21_5, r21_4, r21_6, r21_7, r21_8, r21_10, r21_9, r21_11, c21, F21, l21_0, l21_1, q10, q0', q1, c1, c2, c3, c7, hrd, n1, Int.toNat_natCast, go_sem, Int.reduceTMod, Int.reduceTDiv, Int.reduceDiv, Int.reduceMod, Int.reduceAdd, Int.reduceSub, Int.reduceMul, Int.reduceNeg, Int.reducePow, Int.reduceEq, ↓reduceIte, Nat.reduceEqDiff, Nat.reduceAdd, Nat.reduceMul, Nat.reduceLeDiff, Nat.reduceSub, Nat.reduceLT, Int.reduceToNat, Int.reduceLT, Int.reduceLE, reduceCtorEq]
    repeat' ((first | refine FK_split (fun h_ => ?_) (fun h_ => ?_) | refine GK_split (fun h_ => ?_) (fun h_ => ?_) | refine ite_both (fun h_ => ?_) (fun h_ => ?_)) <;> (try simp only [decide_eq_true_eq, decide_eq_false_iff_not, Bool.not_true, Bool.not_false, Bool.not_eq_true', Bool.not_eq_false', Bool.not_eq_eq_eq_not, Decidable.not_not] at h_) <;> (try simp only [r21_0, r21_1, r21_2, r21_3, r21_5, r21_4, r21_6, r21_7, r21_8, r21_10, r21_9, r21_11, c21, F21, l21_0, l21_1, q10, q0', q1, c1, c2, c3, c7, hrd, n1, Int.toNat_natCast, h_, go_sem, Int.reduceTMod, Int.reduceTDiv, Int.reduceDiv, Int.reduceMod, Int.reduceAdd, Int.reduceSub, Int.reduceMul, Int.reduceNeg, Int.reducePow, Int.reduceEq, ↓reduceIte, Nat.reduceEqDiff, Nat.reduceAdd, Nat.reduceMul, Nat.reduceLeDiff, Nat.reduceSub, Nat.reduceLT, Int.reduceToNat, Int.reduceLT, Int.reduceLE, reduceCtorEq]))
    refine K_push cs7 (by decide) (p := p) (o := true) qo (by omega) (fun id h1 h2 => by simp only [na_0 h2, na_ne h2, go_sem, Int.reduceTMod, Int.reduceTDiv, Int.reduceDiv, Int.reduceMod, Int.reduceAdd, Int.reduceSub, Int.reduceMul, Int.reduceNeg, Int.reducePow, Int.reduceEq, ↓reduceIte, Nat.reduceEqDiff, Nat.reduceAdd, Nat.reduceMul, Nat.reduceLeDiff, Nat.reduceSub, Nat.reduceLT, Int.reduceToNat, Int.reduceLT, Int.reduceLE, reduceCtorEq]) (by simp only [go_sem, Int.reduceTMod, Int.reduceTDiv, Int.reduceDiv, Int.reduceMod, Int.reduceAdd, Int.reduceSub, Int.reduceMul, Int.reduceNeg, Int.reducePow, Int.reduceEq, ↓reduceIte, Nat.reduceEqDiff, Nat.reduceAdd, Nat.reduceMul, Nat.reduceLeDiff, Nat.reduceSub, Nat.reduceLT, Int.reduceToNat, Int.reduceLT, Int.reduceLE, reduceCtorEq]) (by rw [List.length_take]; omega) (by omega) ?_
    intro r' m' ho h1 h2
    try simp only [r21_0, r21_1, r21_2, r21_3, r21_5, r21_4, r21_6, r21_7, r21_8, r21_10, r21_9, r21_11, c21, F21, q10, c7, go_sem, Int.reduceTMod, Int.reduceTDiv, Int.reduceDiv, Int.reduceMod, Int.reduceAdd, Int.reduceSub, Int.reduceMul, Int.reduceNeg, Int.reducePow, Int.reduceEq, ↓reduceIte, Nat.reduceEqDiff, Nat.reduceAdd, Nat.reduceMul, Nat.reduceLeDiff, Nat.reduceSub, Nat.reduceLT, Int.reduceToNat, Int.reduceLT, Int.reduceLE, reduceCtorEq]
    repeat' ((first | refine FK_split (fun h_ => ?_) (fun h_ => ?_) | refine GK_split (fun h_ => ?_) (fun h_ => ?_) | refine ite_both (fun h_ => ?_) (fun h_ => ?_)) <;> (try simp only [decide_eq_true_eq, decide_eq_false_iff_not, Bool.not_true, Bool.not_false, Bool.not_eq_true', Bool.not_eq_false', Bool.not_eq_eq_eq_not, Decidable.not_not] at h_) <;> (try simp only [r21_0, r21_1, r21_2, r21_3, r21_5, r21_4, r21_6, r21_7, r21_8, r21_10, r21_9, r21_11, c21, F21, q10, c7, h_, go_sem, Int.reduceTMod, Int.reduceTDiv, Int.reduceDiv, Int.reduceMod, Int.reduceAdd, Int.reduceSub, Int.reduceMul, Int.reduceNeg, Int.reducePow, Int.reduceEq, ↓reduceIte, Nat.reduceEqDiff, Nat.reduceAdd, Nat.reduceMul, Nat.reduceLeDiff, Nat.reduceSub, Nat.reduceLT, Int.reduceToNat, Int.reduceLT, Int.reduceLE, reduceCtorEq]))
    refine next _ ⟨?_, ?_, ?_, ?_, ?_, ?_, ?_, ?_⟩
    · simp only [go_sem, Int.reduceTMod, Int.reduceTDiv, Int.reduceDiv, Int.reduceMod, Int.reduceAdd, Int.reduceSub, Int.reduceMul, Int.reduceNeg, Int.reducePow, Int.reduceEq, ↓reduceIte, Nat.reduceEqDiff, Nat.reduceAdd, Nat.reduceMul, Nat.reduceLeDiff, Nat.reduceSub, Nat.reduceLT, Int.reduceToNat, Int.reduceLT, Int.reduceLE, reduceCtorEq]
    · simp only [q0, go_sem, Int.reduceTMod, Int.reduceTDiv, Int.reduceDiv, Int.reduceMod, Int.reduceAdd, Int.reduceSub, Int.reduceMul, Int.reduceNeg, Int.reducePow, Int.reduceEq, ↓reduceIte, Nat.reduceEqDiff, Nat.reduceAdd, Nat.reduceMul, Nat.reduceLeDiff, Nat.reduceSub, Nat.reduceLT, Int.reduceToNat, Int.reduceLT, Int.reduceLE, reduceCtorEq]
    · simp only [q1, go_sem, Int.reduceTMod, Int.reduceTDiv, Int.reduceDiv, Int.reduceMod, Int.reduceAdd, Int.reduceSub, Int.reduceMul, Int.reduceNeg, Int.reducePow, Int.reduceEq, ↓reduceIte, Nat.reduceEqDiff, Nat.reduceAdd, Nat.reduceMul, Nat.reduceLeDiff, Nat.reduceSub, Nat.reduceLT, Int.reduceToNat, Int.reduceLT, Int.reduceLE, reduceCtorEq]
    · simp only [q2, go_sem, Int.reduceTMod, Int.reduceTDiv, Int.reduceDiv, Int.reduceMod, Int.reduceAdd, Int.reduceSub, Int.reduceMul, Int.reduceNeg, Int.reducePow, Int.reduceEq, ↓reduceIte, Nat.reduceEqDiff, Nat.reduceAdd, Nat.reduceMul, Nat.reduceLeDiff, Nat.reduceSub, Nat.reduceLT, Int.reduceToNat, Int.reduceLT, Int.reduceLE, reduceCtorEq]
    · simp only [q3, go_sem, Int.reduceTMod, Int.reduceTDiv, Int.reduceDiv, Int.reduceMod, Int.reduceAdd, Int.reduceSub, Int.reduceMul, Int.reduceNeg, Int.reducePow, Int.reduceEq, ↓reduceIte, Nat.reduceEqDiff, Nat.reduceAdd, Nat.reduceMul, Nat.reduceLeDiff, Nat.reduceSub, Nat.reduceLT, Int.reduceToNat, Int.reduceLT, Int.reduceLE, reduceCtorEq]
    · simp only [go_sem, Int.reduceTMod, Int.reduceTDiv, Int.reduceDiv, Int.reduceMod, Int.reduceAdd, Int.reduceSub, Int.reduceMul, Int.reduceNeg, Int.reducePow, Int.reduceEq, ↓reduceIte, Nat.reduceEqDiff, Nat.reduceAdd, Nat.reduceMul, Nat.reduceLeDiff, Nat.reduceSub, Nat.reduceLT, Int.reduceToNat, Int.reduceLT, Int.reduceLE, reduceCtorEq]
      omega
    · intro id hid
      simp only
      rw [h1 id hid]
      simp only [na_0 (show id < N by omega), na_ne (show id < N by omega), qm id hid, go_sem, Int.reduceTMod, Int.reduceTDiv, Int.reduceDiv, Int.reduceMod, Int.reduceAdd, Int.reduceSub, Int.reduceMul, Int.reduceNeg, Int.reducePow, Int.reduceEq, ↓reduceIte, Nat.reduceEqDiff, Nat.reduceAdd, Nat.reduceMul, Nat.reduceLeDiff, Nat.reduceSub, Nat.reduceLT, Int.reduceToNat, Int.reduceLT, Int.reduceLE, reduceCtorEq]
    · simp only [go_sem, Int.reduceTMod, Int.reduceTDiv, Int.reduceDiv, Int.reduceMod, Int.reduceAdd, Int.reduceSub, Int.reduceMul, Int.reduceNeg, Int.reducePow, Int.reduceEq, ↓reduceIte, Nat.reduceEqDiff, Nat.reduceAdd, Nat.reduceMul, Nat.reduceLeDiff, Nat.reduceSub, Nat.reduceLT, Int.reduceToNat, Int.reduceLT, Int.reduceLE, reduceCtorEq]
      rw [take_snoc hp]
      exact ho
  · obtain ⟨e, M, N⟩ := s
    obtain ⟨q10, q0, q1, q2, q3, qn, qm, qo⟩ := hs
    simp only at q10 q0 q1 q2 q3 qn qm qo
    have c1 : ((a : Int) < (a : Int)) = False := eq_false (by omega)
    try simp only [r21_0, r21_1, r21_2, r21_3, r21_5, r21_4, r21_6, r21_7, r21_8, r21_10, r21_9, r21_11, c21, F21, l21_0, q10, q1, q3, c1, go_sem, Int.reduceTMod, Int.reduceTDiv, Int.reduceDiv, Int.reduceMod, Int.reduceAdd, Int.reduceSub, Int.reduceMul, Int.reduceNeg, Int.reducePow, Int.reduceEq, ↓reduceIte, Nat.reduceEqDiff, Nat.reduceAdd, Nat.reduceMul, Nat.reduceLeDiff, Nat.reduceSub, Nat.reduceLT, Int.reduceToNat, Int.reduceLT, Int.reduceLE, reduceCtorEq]
    repeat' ((first | refine FK_split (fun h_ => ?_) (fun h_ => ?_) | refine GK_split (fun h_ => ?_) (fun h_ => ?_) | refine ite_both (fun h_ => ?_) (fun h_ => ?_)) <;> (try simp only [decide_eq_true_eq, decide_eq_false_iff_not, Bool.not_true, Bool.not_false, Bool.not_eq_true', Bool.not_eq_false', Bool.not_eq_eq_eq_not, Decidable.not_not] at h_) <;> (try simp only [r21_0, r21_1, r21_2, r21_3, r21_5, r21_4, r21_6, r21_7, r21_8, r21_10, r21_9, r21_11, c21, F21, l21_0, q10, q1, q3, c1, h_, go_sem, Int.reduceTMod, Int.reduceTDiv, Int.reduceDiv, Int.reduceMod, Int.reduceAdd, Int.reduceSub, Int.reduceMul, Int.reduceNeg, Int.reducePow, Int.reduceEq, ↓reduceIte, Nat.reduceEqDiff, Nat.reduceAdd, Nat.reduceMul, Nat.reduceLeDiff, Nat.reduceSub, Nat.reduceLT, Int.reduceToNat, Int.reduceLT, Int.reduceLE, reduceCtorEq]))
    refine K_catL cs7 qo (Nat.le_refl _) (fun _ _ _ => rfl) (hx.keep qn qm) (by rw [List.length_take]; omega) qn ?_
    intro r1 M1 N1 hN1 ho1 hf1
    have hf1' : ∀ id, id < n → M1 id = m id := fun id hid => by
      rw [hf1 id (by omega) (fun h => by have := qo.sidge h; omega)]
      exact qm id hid
    have w1 : IntKind.i64.wrap ((a : Int) + (dr : Int)) = ((a + dr + 0 : Nat) : Int) := (wr_eq (by omega) (by omega)).trans (by omega)
    try simp only [r21_0, r21_1, r21_2, r21_3, r21_5, r21_4, r21_6, r21_7, r21_8, r21_10, r21_9, r21_11, c21, F21, q1, q2, w1, go_sem, Int.reduceTMod, Int.reduceTDiv, Int.reduceDiv, Int.reduceMod, Int.reduceAdd, Int.reduceSub, Int.reduceMul, Int.reduceNeg, Int.reducePow, Int.reduceEq, ↓reduceIte, Nat.reduceEqDiff, Nat.reduceAdd, Nat.reduceMul, Nat.reduceLeDiff, Nat.reduceSub, Nat.reduceLT, Int.reduceToNat, Int.reduceLT, Int.reduceLE, reduceCtorEq]
    repeat' ((first | refine FK_split (fun h_ => ?_) (fun h_ => ?_) | refine GK_split (fun h_ => ?_) (fun h_ => ?_) | refine ite_both (fun h_ => ?_) (fun h_ => ?_)) <;> (try simp only [decide_eq_true_eq, decide_eq_false_iff_not, Bool.not_true, Bool.not_false, Bool.not_eq_true', Bool.not_eq_false', Bool.not_eq_eq_eq_not, Decidable.not_not] at h_) <;> (try simp only [r21_0, r21_1, r21_2, r21_3, r21_5, r21_4, r21_6, r21_7, r21_8, r21_10, r21_9, r21_11, c21, F21, q1, q2, w1, h_, go_sem, Int.reduceTMod, Int.reduceTDiv, Int.reduceDiv, Int.reduceMod, Int.reduceAdd, Int.reduceSub, Int.reduceMul, Int.reduceNeg, Int.reducePow, Int.reduceEq, ↓reduceIte, Nat.reduceEqDiff, Nat.reduceAdd, Nat.reduceMul, Nat.reduceLeDiff, Nat.reduceSub, Nat.reduceLT, Int.reduceToNat, Int.reduceLT, Int.reduceLE, reduceCtorEq]))
    refine XK_iter (inv := fun i s => s.e 11 = RI ((a + dr + i : Nat) : Int) ∧ s.e 0 = r ∧ n ≤ s.n ∧ (∀ id, id < n → s.m id = m id) ∧ OSg n s.m s.n (s.e 9) (l.take a ++ xs ++ (l.drop (a + dr)).take i)) (l.length - (a + dr))
      (fun L _ => ⟨fun i hi s hs next => ?_, fun s hs => ?_⟩) 0 (by omega) _ ?_
    · obtain ⟨e2, M2, N2⟩ := s
      obtain ⟨p11, p0, pn, pm, po⟩ := hs
      simp only at p11 p0 pn pm po
      have hp : l[a + dr + i]? = some l[a + dr + i] := List.getElem?_eq_getElem (by omega)
      have hp2 : (l.drop (a + dr))[i]? = some l[a + dr + i] := by rw [List.getElem?_drop]; exact hp
      obtain ⟨id, off, cap, hr1, hid, hrd⟩ := (hr.keep pn pm).at cs7 hp
      generalize l[a + dr + i] = p at *
      have c2 : (((a + dr + i : Nat) : Int) < (l.length : Int)) = True := eq_true (by omega)
      have c3 : (0 ≤ ((a + dr + i : Nat) : Int)) = True := eq_true (by omega)
      have c7 : IntKind.i64.wrap (((a + dr + i : Nat) : Int) + 1) = ((a + dr + (i + 1) : Nat) : Int) := (wr_eq (by omega) (by omega)).trans (by omega)
      have p0' := p0
      rw [hr1] at p0'
      have n1 := na_0 hid
      have hlen2 := hlen
      rw [hr1] at hlen2
      try simp only [r21_0, r21_1, r21_2, r21_3, r21_5, r21_4, r21_6, r21_7, r21_8, r21_10, r21_9, r21_11, c21, F21, l21_0, l21_1, p11, p0', hlen2, c2, c3, c7, hrd, n1, Int.toNat_natCast, go_sem, Int.reduceTMod, Int.reduceTDiv, Int.reduceDiv, Int.reduceMod, Int.reduceAdd, Int.reduceSub, Int.reduceMul, Int.reduceNeg, Int.reducePow, Int.reduceEq, ↓reduceIte, Nat.reduceEqDiff, Nat.reduceAdd, Nat.reduceMul, Nat.reduceLeDiff, Nat.reduceSub, Nat.reduceLT, Int.reduceToNat, Int.reduceLT, Int.reduceLE, reduceCtorEq]
      repeat' ((first | refine FK_split (fun h_ => ?_) (fun h_ => ?_) | refine GK_split (fun h_ => ?_) (fun h_ => ?_) | refine ite_both (fun h_ => ?_) (fun h_ => ?_)) <;> (try simp only [decide_eq_true_eq, decide_eq_false_iff_not, Bool.not_true, Bool.not_false, Bool.not_eq_true', Bool.not_eq_false', Bool.not_eq_eq_eq_not, Decidable.not_not] at h_) <;> (try simp only [r21_0, r21_1, r21_2, r21_3, r21_5, r21_4, r21_6, r21_7, r21_8, r21_10, r21_9, r21_11, c21, F21, l21_0, l21_1, p11, p0', hlen2, c2, c3, c7, hrd, n1, Int.toNat_natCast, h_, go_sem, Int.reduceTMod, Int.reduceTDiv, Int.reduceDiv, Int.reduceMod, Int.reduceAdd, Int.reduceSub, Int.reduceMul, Int.reduceNeg, Int.reducePow, Int.reduceEq, ↓reduceIte, Nat.reduceEqDiff, Nat.reduceAdd, Nat.reduceMul, Nat.reduceLeDiff, Nat.reduceSub, Nat.reduceLT, Int.reduceToNat, Int.reduceLT, Int.reduceLE, reduceCtorEq]))
      refine K_push cs7 (by decide) (p := p) (o := true) po (by omega) (fun id h1 h2 => by simp only [na_0 h2, na_ne h2, go_sem, Int.reduceTMod, Int.reduceTDiv, Int.reduceDiv, Int.reduceMod, Int.reduceAdd, Int.reduceSub, Int.reduceMul, Int.reduceNeg, Int.reducePow, Int.reduceEq, ↓reduceIte, Nat.reduceEqDiff, Nat.reduceAdd, Nat.reduceMul, Nat.reduceLeDiff, Nat.reduceSub, Nat.reduceLT, Int.reduceToNat, Int.reduceLT, Int.reduceLE, reduceCtorEq]) (by simp only [go_sem, Int.reduceTMod, Int.reduceTDiv, Int.reduceDiv, Int.reduceMod, Int.reduceAdd, Int.reduceSub, Int.reduceMul, Int.reduceNeg, Int.reducePow, Int.reduceEq, ↓reduceIte, Nat.reduceEqDiff, Nat.reduceAdd, Nat.reduceMul, Nat.reduceLeDiff, Nat.reduceSub, Nat.reduceLT, Int.reduceToNat, Int.reduceLT, Int.reduceLE, reduceCtorEq]) (by simp only [List.length_append, List.length_take, List.length_drop]; omega) (by omega) ?_
      intro r' m' ho h1 h2
      try simp only [r21_0, r21_1, r21_2, r21_3, r21_5, r21_4, r21_6, r21_7, r21_8, r21_10, r21_9, r21_11, c21, F21, p11, c7, go_sem, Int.reduceTMod, Int.reduceTDiv, Int.reduceDiv, Int.reduceMod, Int.reduceAdd, Int.reduceSub, Int.reduceMul, Int.reduceNeg, Int.reducePow, Int.reduceEq, ↓reduceIte, Nat.reduceEqDiff, Nat.reduceAdd, Nat.reduceMul, Nat.reduceLeDiff, Nat.reduceSub, Nat.reduceLT, Int.reduceToNat, Int.reduceLT, Int.reduceLE, reduceCtorEq]
      repeat' ((first | refine FK_split (fun h_ => ?_) (fun h_ => ?_) | refine GK_split (fun h_ => ?_) (fun h_ => ?_) | refine ite_both (fun h_ => ?_) (fun h_ => ?_)) <;> (try simp only [decide_eq_true_eq, decide_eq_false_iff_not, Bool.not_true, Bool.not_false, Bool.not_eq_true', Bool.not_eq_false', Bool.not_eq_eq_eq_not, Decidable.not_not] at h_) <;> (try simp only [r21_0, r21_1, r21_2, r21_3, r21_5, r21_4, r21_6, r21_7, r21_8, r21_10, r21_9, r21_11, c21, F21, p11, c7, h_, go_sem, Int.reduceTMod, Int.reduceTDiv, Int.reduceDiv, Int.reduceMod, Int.reduceAdd, Int.reduceSub, Int.reduceMul, Int.reduceNeg, Int.reducePow, Int.reduceEq, ↓reduceIte, Nat.reduceEqDiff, Nat.reduceAdd, Nat.reduceMul, Nat.reduceLeDiff, Nat.reduceSub, Nat.reduceLT, Int.reduceToNat, Int.reduceLT, Int.reduceLE, reduceCtorEq]))
      refine next _ ⟨?_, ?_, ?_, ?_, ?_⟩
      · simp only [go_sem, Int.reduceTMod, Int.reduceTDiv, Int.reduceDiv, Int.reduceMod, Int.reduceAdd, Int.reduceSub, Int.reduceMul, Int.reduceNeg, Int.reducePow, Int.reduceEq, ↓reduceIte, Nat.reduceEqDiff, Nat.reduceAdd, Nat.reduceMul, Nat.reduceLeDiff, Nat.reduceSub, Nat.reduceLT, Int.reduceToNat, Int.reduceLT, Int.reduceLE, reduceCtorEq]
      · simp only [p0, go_sem, Int.reduceTMod, Int.reduceTDiv, Int.reduceDiv, Int.reduceMod, Int.reduceAdd, Int.reduceSub, Int.reduceMul, Int.reduceNeg, Int.reducePow, Int.reduceEq, ↓reduceIte, Nat.reduceEqDiff, Nat.reduceAdd, Nat.reduceMul, Nat.reduceLeDiff, Nat.reduceSub, Nat.reduceLT, Int.reduceToNat, Int.reduceLT, Int.reduceLE, reduceCtorEq]
      · simp only [go_sem, Int.reduceTMod, Int.reduceTDiv, Int.reduceDiv, Int.reduceMod, Int.reduceAdd, Int.reduceSub, Int.reduceMul, Int.reduceNeg, Int.reducePow, Int.reduceEq, ↓reduceIte, Nat.reduceEqDiff, Nat.reduceAdd, Nat.reduceMul, Nat.reduceLeDiff, Nat.reduceSub, Nat.reduceLT, Int.reduceToNat, Int.reduceLT, Int.reduceLE, reduceCtorEq]
        omega
      · intro id hid
        simp only
        rw [h1 id hid]
        simp only [na_0 (show id < N2 by omega), na_ne (show id < N2 by omega), pm id hid, go_sem, Int.reduceTMod, Int.reduceTDiv, Int.reduceDiv, Int.reduceMod, Int.reduceAdd, Int.reduceSub, Int.reduceMul, Int.reduceNeg, Int.reducePow, Int.reduceEq, ↓reduceIte, Nat.reduceEqDiff, Nat.reduceAdd, Nat.reduceMul, Nat.reduceLeDiff, Nat.reduceSub, Nat.reduceLT, Int.reduceToNat, Int.reduceLT, Int.reduceLE, reduceCtorEq]
      · simp only [go_sem, Int.reduceTMod, Int.reduceTDiv, Int.reduceDiv, Int.reduceMod, Int.reduceAdd, Int.reduceSub, Int.reduceMul, Int.reduceNeg, Int.reducePow, Int.reduceEq, ↓reduceIte, Nat.reduceEqDiff, Nat.reduceAdd, Nat.reduceMul, Nat.reduceLeDiff, Nat.reduceSub, Nat.reduceLT, Int.reduceToNat, Int.reduceLT, Int.reduceLE, reduceCtorEq]
        rw [take_snoc hp2, ← List.append_assoc]
        exact ho
    · obtain ⟨e2, M2, N2⟩ := s
      obtain ⟨p11, p0, pn, pm, po⟩ := hs
      simp only at p11 p0 pn pm po
      have c2 : (((a + dr + (l.length - (a + dr)) : Nat) : Int) < (l.length : Int)) = False := eq_false (by omega)
      rw [show (l.drop (a + dr)).take (l.length - (a + dr)) = l.drop (a + dr) from List.take_of_length_le (by rw [List.length_drop]; omega)] at po
      try simp only [r21_0, r21_1, r21_2, r21_3, r21_5, r21_4, r21_6, r21_7, r21_8, r21_10, r21_9, r21_11, c21, F21, l21_0, l21_1, p11, p0, hlen, c2, go_sem, Int.reduceTMod, Int.reduceTDiv, Int.reduceDiv, Int.reduceMod, Int.reduceAdd, Int.reduceSub, Int.reduceMul, Int.reduceNeg, Int.reducePow, Int.reduceEq, ↓reduceIte, Nat.reduceEqDiff, Nat.reduceAdd, Nat.reduceMul, Nat.reduceLeDiff, Nat.reduceSub, Nat.reduceLT, Int.reduceToNat, Int.reduceLT, Int.reduceLE, reduceCtorEq]
      repeat' ((first | refine FK_split (fun h_ => ?_) (fun h_ => ?_) | refine GK_split (fun h_ => ?_) (fun h_ => ?_) | refine ite_both (fun h_ => ?_) (fun h_ => ?_)) <;> (try simp only [decide_eq_true_eq, decide_eq_false_iff_not, Bool.not_true, Bool.not_false, Bool.not_eq_true', Bool.not_eq_false', Bool.not_eq_eq_eq_not, Decidable.not_not] at h_) <;> (try simp only [r21_0, r21_1, r21_2, r21_3, r21_5, r21_4, r21_6, r21_7, r21_8, r21_10, r21_9, r21_11, c21, F21, l21_0, l21_1, p11, p0, hlen, c2, h_, go_sem, Int.reduceTMod, Int.reduceTDiv, Int.reduceDiv, Int.reduceMod, Int.reduceAdd, Int.reduceSub, Int.reduceMul, Int.reduceNeg, Int.reducePow, Int.reduceEq, ↓reduceIte, Nat.reduceEqDiff, Nat.reduceAdd, Nat.reduceMul, Nat.reduceLeDiff, Nat.reduceSub, Nat.reduceLT, Int.reduceToNat, Int.reduceLT, Int.reduceLE, reduceCtorEq]))
      exact ⟨po, pn⟩
    · refine ⟨?_, ?_, by simp only; omega, hf1', ?_⟩
      · simp only [go_sem, Int.reduceTMod, Int.reduceTDiv, Int.reduceDiv, Int.reduceMod, Int.reduceAdd, Int.reduceSub, Int.reduceMul, Int.reduceNeg, Int.reducePow, Int.reduceEq, ↓reduceIte, Nat.reduceEqDiff, Nat.reduceAdd, Nat.reduceMul, Nat.reduceLeDiff, Nat.reduceSub, Nat.reduceLT, Int.reduceToNat, Int.reduceLT, Int.reduceLE, reduceCtorEq]
      · simp only [q0, go_sem, Int.reduceTMod, Int.reduceTDiv, Int.reduceDiv, Int.reduceMod, Int.reduceAdd, Int.reduceSub, Int.reduceMul, Int.reduceNeg, Int.reducePow, Int.reduceEq, ↓reduceIte, Nat.reduceEqDiff, Nat.reduceAdd, Nat.reduceMul, Nat.reduceLeDiff, Nat.reduceSub, Nat.reduceLT, Int.reduceToNat, Int.reduceLT, Int.reduceLE, reduceCtorEq]
      · simp only [List.take_zero, List.append_nil, go_sem, Int.reduceTMod, Int.reduceTDiv, Int.reduceDiv, Int.reduceMod, Int.reduceAdd, Int.reduceSub, Int.reduceMul, Int.reduceNeg, Int.reducePow, Int.reduceEq, ↓reduceIte, Nat.reduceEqDiff, Nat.reduceAdd, Nat.reduceMul, Nat.reduceLeDiff, Nat.reduceSub, Nat.reduceLT, Int.reduceToNat, Int.reduceLT, Int.reduceLE, reduceCtorEq]
        exact ho1
  · refine ⟨?_, ?_, ?_, ?_, ?_, ?_, ?_, ?_⟩
    · simp only [go_sem, Int.reduceTMod, Int.reduceTDiv, Int.reduceDiv, Int.reduceMod, Int.reduceAdd, Int.reduceSub, Int.reduceMul, Int.reduceNeg, Int.reducePow, Int.reduceEq, ↓reduceIte, Nat.reduceEqDiff, Nat.reduceAdd, Nat.reduceMul, Nat.reduceLeDiff, Nat.reduceSub, Nat.reduceLT, Int.reduceToNat, Int.reduceLT, Int.reduceLE, reduceCtorEq]
    · simp only [go_sem, Int.reduceTMod, Int.reduceTDiv, Int.reduceDiv, Int.reduceMod, Int.reduceAdd, Int.reduceSub, Int.reduceMul, Int.reduceNeg, Int.reducePow, Int.reduceEq, ↓reduceIte, Nat.reduceEqDiff, Nat.reduceAdd, Nat.reduceMul, Nat.reduceLeDiff, Nat.reduceSub, Nat.reduceLT, Int.reduceToNat, Int.reduceLT, Int.reduceLE, reduceCtorEq]
    · simp only [go_sem, Int.reduceTMod, Int.reduceTDiv, Int.reduceDiv, Int.reduceMod, Int.reduceAdd, Int.reduceSub, Int.reduceMul, Int.reduceNeg, Int.reducePow, Int.reduceEq, ↓reduceIte, Nat.reduceEqDiff, Nat.reduceAdd, Nat.reduceMul, Nat.reduceLeDiff, Nat.reduceSub, Nat.reduceLT, Int.reduceToNat, Int.reduceLT, Int.reduceLE, reduceCtorEq]
    · simp only [go_sem, Int.reduceTMod, Int.reduceTDiv, Int.reduceDiv, Int.reduceMod, Int.reduceAdd, Int.reduceSub, Int.reduceMul, Int.reduceNeg, Int.reducePow, Int.reduceEq, ↓reduceIte, Nat.reduceEqDiff, Nat.reduceAdd, Nat.reduceMul, Nat.reduceLeDiff, Nat.reduceSub, Nat.reduceLT, Int.reduceToNat, Int.reduceLT, Int.reduceLE, reduceCtorEq]
    · simp only [go_sem, Int.reduceTMod, Int.reduceTDiv, Int.reduceDiv, Int.reduceMod, Int.reduceAdd, Int.reduceSub, Int.reduceMul, Int.reduceNeg, Int.reducePow, Int.reduceEq, ↓reduceIte, Nat.reduceEqDiff, Nat.reduceAdd, Nat.reduceMul, Nat.reduceLeDiff, Nat.reduceSub, Nat.reduceLT, Int.reduceToNat, Int.reduceLT, Int.reduceLE, reduceCtorEq]
    · exact Nat.le_refl _
    · exact fun _ _ => rfl
    · simp only [List.take_zero, go_sem, Int.reduceTMod, Int.reduceTDiv, Int.reduceDiv, Int.reduceMod, Int.reduceAdd, Int.reduceSub, Int.reduceMul, Int.reduceNeg, Int.reducePow, Int.reduceEq, ↓reduceIte, Nat.reduceEqDiff, Nat.reduceAdd, Nat.reduceMul, Nat.reduceLeDiff, Nat.reduceSub, Nat.reduceLT, Int.reduceToNat, Int.reduceLT, Int.reduceLE, reduceCtorEq]
      exact OL.nil

/- Matrices: right; what they make of a point. Conditions: those that each theorem names. -/
open Go Go.Proofs
set_option linter.unusedSimpArgs false
set_option linter.unusedVariables false

structure Mx where
  a : Int
  b : Int
  c : Int
  d : Int
  e : Int
  f : Int
abbrev Mx.cs (m : Mx) : List Cell := [I m.a, I m.b, I m.c, I m.d, I m.e, I m.f]
theorem need_bd (k : Int) : 0 ≤ need k ∧ need k ≤ 3 := by unfold need; split <;> (try split) <;> (try split) <;> omega

/- A matrix on a path walked. Conditions: those that each theorem names. -/
open Go Go.Proofs
set_option linter.unusedSimpArgs false
set_option linter.unusedVariables false

def ptJ (s : Sg) : Nat → Pt
  | 0 => s.a
  | 1 => s.b
  | _ => s.c
theorem mem_pts {s : Sg} {j : Nat} (h : j < (need s.k).toNat) : ptJ s j ∈ s.pts.take (need s.k).toNat := by
  have hb := need_bd s.k
  have h3 : (need s.k).toNat = 0 ∨ (need s.k).toNat = 1 ∨ (need s.k).toNat = 2 ∨ (need s.k).toNat = 3 := by omega
  have hj : j = 0 ∨ j = 1 ∨ j = 2 := by omega
  rcases h3 with h3 | h3 | h3 | h3 <;> rcases hj with rfl | rfl | rfl <;> rw [h3] at h ⊢ <;> first | omega | simp [Sg.pts, ptJ]
theorem rd_sub {m : Mem} {id off k a q : Nat} {cs : List Cell} (h : rd m id off k = some cs) (hq : a + q ≤ k) : rd m id (off + a) q = some ((cs.drop a).take q) := by
  unfold rd at h ⊢
  split at h
  case h_2 => cases h
  rename_i b hb
  split at h
  case isFalse => cases h
  rename_i hle
  cases h
  rw [if_pos (by omega), List.drop_take, List.take_take, List.drop_drop]
  congr 2
  omega
theorem CL.rl {base : Nat} {m : Mem} {n : Nat} {r : Reg} {l : List Sg} (h : CL base m n r l) : RSg m n r l := by
  rcases h with h | ⟨id, cap, rfl, h1, h2, h3, h4⟩
  · exact Or.inl h
  · refine Or.inr ⟨id, 0, cap, rfl, h2, ?_⟩
    have hl := flatMap_len Sg.cs 7 cs7 l
    rw [rd_of h3]
    unfold rdB
    rw [if_pos (by rw [hl]; omega), List.drop_zero, ← hl, List.take_length]
theorem CL.sidge {base : Nat} {m : Mem} {n : Nat} {r : Reg} {l : List Sg} (h : CL base m n r l) {j : Nat} (hj : sid r = some j) : base ≤ j := by
  rcases h with ⟨rfl, _⟩ | ⟨id, cap, rfl, h1, _⟩
  · cases hj
  · simp only [sid, Option.some.injEq] at hj
    omega

/- The law PathApplies walked. Conditions: those that each theorem names. -/
open Go Go.Proofs
set_option linter.unusedSimpArgs false
set_option linter.unusedVariables false

/-- One record more, in a block of its own. -/
theorem K_push2 {T : Nat → Option SFun} {α : Type} {enc : α → List Cell} {sz : Nat} (hsz : ∀ x, (enc x).length = sz) (hpos : 0 < sz) {base n0 n : Nat} {m0 m : Mem} {r0 : Reg} {l : List α} {p : α} {j by' : Nat} {o : Bool} {d : Option Nat} {os : List SOper} {e : Nat → Reg} {k : Kt}
    (ho : OL enc sz base m0 n0 r0 l) (hn : n0 ≤ n) (hm : ∀ id, base ≤ id → id < n0 → m id = m0 id) (hj : m j = some ⟨enc p, o⟩) (hsm : l.length + 1 ≤ 4294967296) (hbase : base ≤ n)
    (next : ∀ c m', OL enc sz base m' (n + 1) (.one c) (l ++ [p]) → (∀ id, id < n → sid r0 ≠ some id → m' id = m id) → (∀ id, sid (.one c) = some id → id = n) → RK T os (putE e d (.one c)) m' (n + 1) k) :
    ThenK T d os e k (evApp m n sz by' r0 (.one (.sl j 0 1 (some 1) sz))) := by
  have hx : newsOf m sz (.one (.sl j 0 1 (some 1) sz)) = some (1, enc p) := by
    simp only [newsOf, if_true]
    rw [rd_of hj]
    simp [rdB, hsz]
    exact List.take_of_length_le (by rw [hsz]; exact Nat.le_refl _)
  rcases ho with ⟨rfl, rfl⟩ | ⟨id, rfl, h2, h3, h4⟩
  · simp only [evApp, hx]
    rw [if_neg (by omega), if_pos (by omega)]
    refine next _ _ (Or.inr ⟨n, rfl, hbase, by omega, ?_⟩) (fun id hid _ => upd_ne _ _ (by omega)) (fun id h => ?_)
    · rw [upd_same]
      simp
    · simp only [sid, Option.some.injEq] at h; exact h.symm
  · have h5 : m id = some ⟨l.flatMap enc, true⟩ := by rw [hm id h2 h3]; exact h4
    have hl := flatMap_len enc sz hsz l
    have h6 : rd m id 0 (l.length * sz) = some (l.flatMap enc) := by
      rw [rd_of h5]
      unfold rdB
      rw [if_pos (by rw [hl]; omega), List.drop_zero, ← hl, List.take_length]
    simp only [evApp, hx, if_true, h5, h6, Option.map_some, true_and, if_pos hsm]
    refine next _ _ (Or.inr ⟨n, by simp, hbase, by omega, ?_⟩) (fun i hi hs => ?_) (fun id h => ?_)
    · rw [upd_same]; simp
    · rw [upd_ne _ _ (by omega), upd_ne _ _ (fun e => hs (by rw [e]; rfl))]
    · simp only [sid, Option.some.injEq] at h; exact h.symm
theorem RL.up {α : Type} {enc : α → List Cell} {sz : Nat} {M m' : Mem} {N n' : Nat} {r : Reg} {l : List α} (h : RL enc sz M N r l) (hn : N ≤ n') : RL enc sz (unfrz M N m') n' r l := h.keep hn (fun id hid => by rw [unfrz_at, if_pos hid])
theorem RL.nw {α : Type} {enc : α → List Cell} {sz : Nat} {M m' : Mem} {N n' : Nat} {r : Reg} {l : List α} (h : RL enc sz m' n' r l) (hs : ∀ j, sid r = some j → N ≤ j) : RL enc sz (unfrz M N m') n' r l :=
  h.keep' (Nat.le_refl _) (fun id hid => by rw [unfrz_at, if_neg (by have := hs id hid; omega)])
theorem take_pt {s : Sg} {j : Nat} (h : j < 3) : s.pts.take (j + 1) = s.pts.take j ++ [ptJ s j] := by
  have h3 : j = 0 ∨ j = 1 ∨ j = 2 := by omega
  rcases h3 with rfl | rfl | rfl <;> rfl
theorem v_same06 {x w : Reg} {l : List Sg} {m : Mem} {n : Nat} (hx : RSg m n x l) (hw : RSg m n w l) (hl : l.length < 4294967296) : callF TA 28 [x, w] m n = some (RB true) := by
  refine callF_of (Fn_ofK (fn := F28) rfl (by simp [F28]) ?_)
  try simp only [r28_0, r28_1, r28_2, r28_3, r28_4, r28_5, r28_6, r28_7, r28_8, r28_9, r28_10, c28, F28, go_sem, Int.reduceTMod, Int.reduceTDiv, Int.reduceDiv, Int.reduceMod, Int.reduceAdd, Int.reduceSub, Int.reduceMul, Int.reduceNeg, Int.reducePow, Int.reduceEq, ↓reduceIte, Nat.reduceEqDiff, Nat.reduceAdd, Nat.reduceMul, Nat.reduceLeDiff, Nat.reduceSub, Nat.reduceLT, Int.reduceToNat, Int.reduceLT, Int.reduceLE, reduceCtorEq]
  repeat' ((first | refine FK_split (fun h_ => ?_) (fun h_ => ?_) | refine GK_split (fun h_ => ?_) (fun h_ => ?_) | refine ite_both (fun h_ => ?_) (fun h_ => ?_)) <;> (try simp only [decide_eq_true_eq, decide_eq_false_iff_not, Bool.not_true, Bool.not_false, Bool.not_eq_true', Bool.not_eq_false', Bool.not_eq_eq_eq_not, Decidable.not_not] at h_) <;> (try simp only [r28_0, r28_1, r28_2, r28_3, r28_4, r28_5, r28_6, r28_7, r28_8, r28_9, r28_10, c28, F28, h_, go_sem, Int.reduceTMod, Int.reduceTDiv, Int.reduceDiv, Int.reduceMod, Int.reduceAdd, Int.reduceSub, Int.reduceMul, Int.reduceNeg, Int.reducePow, Int.reduceEq, ↓reduceIte, Nat.reduceEqDiff, Nat.reduceAdd, Nat.reduceMul, Nat.reduceLeDiff, Nat.reduceSub, Nat.reduceLT, Int.reduceToNat, Int.reduceLT, Int.reduceLE, reduceCtorEq]))
  refine RK_callk ?_
  refine (w_ref hx.frz hl).mono ?_
  rintro r1 m1 n1 ⟨ho1, hn1⟩
  obtain ⟨M1, hM1⟩ : ∃ M1, M1 = unfrz m n m1 := ⟨_, rfl⟩
  rw [← hM1, show max n n1 = n1 by omega]
  have hf1 : ∀ id, id < n → M1 id = m id := fun id hid => by rw [hM1, unfrz_at, if_pos hid]
  have hw1 : RSg M1 n1 w l := hw.keep hn1 hf1
  have hr1 : RSg M1 n1 r1 l := (ho1.rl cs7).keep' (Nat.le_refl _) (fun id hid => by rw [hM1, unfrz_at, if_neg (by have := ho1.sidge hid; omega)])
  have hlw := hw1.len
  have hlr := hr1.len
  try simp only [r28_0, r28_1, r28_2, r28_3, r28_4, r28_5, r28_6, r28_7, r28_8, r28_9, r28_10, c28, F28, hlw, hlr, go_sem, Int.reduceTMod, Int.reduceTDiv, Int.reduceDiv, Int.reduceMod, Int.reduceAdd, Int.reduceSub, Int.reduceMul, Int.reduceNeg, Int.reducePow, Int.reduceEq, ↓reduceIte, Nat.reduceEqDiff, Nat.reduceAdd, Nat.reduceMul, Nat.reduceLeDiff, Nat.reduceSub, Nat.reduceLT, Int.reduceToNat, Int.reduceLT, Int.reduceLE, reduceCtorEq]
  repeat' ((first | refine FK_split (fun h_ => ?_) (fun h_ => ?_) | refine GK_split (fun h_ => ?_) (fun h_ => ?_) | refine ite_both (fun h_ => ?_) (fun h_ => ?_)) <;> (try simp only [decide_eq_true_eq, decide_eq_false_iff_not, Bool.not_true, Bool.not_false, Bool.not_eq_true', Bool.not_eq_false', Bool.not_eq_eq_eq_not, Decidable.not_not] at h_) <;> (try simp only [r28_0, r28_1, r28_2, r28_3, r28_4, r28_5, r28_6, r28_7, r28_8, r28_9, r28_10, c28, F28, hlw, hlr, h_, go_sem, Int.reduceTMod, Int.reduceTDiv, Int.reduceDiv, Int.reduceMod, Int.reduceAdd, Int.reduceSub, Int.reduceMul, Int.reduceNeg, Int.reducePow, Int.reduceEq, ↓reduceIte, Nat.reduceEqDiff, Nat.reduceAdd, Nat.reduceMul, Nat.reduceLeDiff, Nat.reduceSub, Nat.reduceLT, Int.reduceToNat, Int.reduceLT, Int.reduceLE, reduceCtorEq]))
  refine XK_iter (inv := fun i s => s.e 16 = RI i ∧ s.e 15 = RI l.length ∧ s.e 1 = w ∧ s.e 5 = r1 ∧ s.m = M1 ∧ s.n = n1) l.length
    (fun L _ => ⟨fun i hi s hs next => ?_, fun s hs => ?_⟩) 0 (by omega) _ ⟨?_, ?_, ?_, ?_, rfl, rfl⟩
  · obtain ⟨e, M, N⟩ := s
    obtain ⟨q16, q15, q1, q5, qm, qn⟩ := hs
    simp only at q16 q15 q1 q5 qm qn
    subst qm qn
    have hp : l[i]? = some l[i] := List.getElem?_eq_getElem hi
    obtain ⟨id, off, cap, hr1', hid, hrd⟩ := hw1.at cs7 hp
    obtain ⟨id2, off2, cap2, hr2', hid2, hrd2⟩ := hr1.at cs7 hp
    generalize l[i] = p at *
    have c2 : ((i : Int) < (l.length : Int)) = True := eq_true (by omega)
    have c3 : (0 ≤ (i : Int)) = True := eq_true (by omega)
    have c7 : IntKind.i64.wrap ((i : Int) + 1) = ((i + 1 : Nat) : Int) := wr_nat (by omega)
    have q1' := q1
    have q5' := q5
    rw [hr1'] at q1'
    rw [hr2'] at q5'
    try simp only [r28_0, r28_1, r28_2, r28_3, r28_4, r28_5, r28_6, r28_7, r28_8, r28_9, r28_10, c28, F28, l28_0, q16, q15, q1', q5', c2, c3, c7, hrd, hrd2, Int.toNat_natCast, go_sem, Int.reduceTMod, Int.reduceTDiv, Int.reduceDiv, Int.reduceMod, Int.reduceAdd, Int.reduceSub, Int.reduceMul, Int.reduceNeg, Int.reducePow, Int.reduceEq, ↓reduceIte, Nat.reduceEqDiff, Nat.reduceAdd, Nat.reduceMul, Nat.reduceLeDiff, Nat.reduceSub, Nat.reduceLT, Int.reduceToNat, Int.reduceLT, Int.reduceLE, reduceCtorEq]
    repeat' ((first | refine FK_split (fun h_ => ?_) (fun h_ => ?_) | refine GK_split (fun h_ => ?_) (fun h_ => ?_) | refine ite_both (fun h_ => ?_) (fun h_ => ?_)) <;> (try simp only [decide_eq_true_eq, decide_eq_false_iff_not, Bool.not_true, Bool.not_false, Bool.not_eq_true', Bool.not_eq_false', Bool.not_eq_eq_eq_not, Decidable.not_not] at h_) <;> (try simp only [r28_0, r28_1, r28_2, r28_3, r28_4, r28_5, r28_6, r28_7, r28_8, r28_9, r28_10, c28, F28, l28_0, q16, q15, q1', q5', c2, c3, c7, hrd, hrd2, Int.toNat_natCast, h_, go_sem, Int.reduceTMod, Int.reduceTDiv, Int.reduceDiv, Int.reduceMod, Int.reduceAdd, Int.reduceSub, Int.reduceMul, Int.reduceNeg, Int.reducePow, Int.reduceEq, ↓reduceIte, Nat.reduceEqDiff, Nat.reduceAdd, Nat.reduceMul, Nat.reduceLeDiff, Nat.reduceSub, Nat.reduceLT, Int.reduceToNat, Int.reduceLT, Int.reduceLE, reduceCtorEq]))
    refine next _ ⟨?_, ?_, ?_, ?_, rfl, rfl⟩
    · simp only [go_sem, Int.reduceTMod, Int.reduceTDiv, Int.reduceDiv, Int.reduceMod, Int.reduceAdd, Int.reduceSub, Int.reduceMul, Int.reduceNeg, Int.reducePow, Int.reduceEq, ↓reduceIte, Nat.reduceEqDiff, Nat.reduceAdd, Nat.reduceMul, Nat.reduceLeDiff, Nat.reduceSub, Nat.reduceLT, Int.reduceToNat, Int.reduceLT, Int.reduceLE, reduceCtorEq]
    · simp only [q15, go_sem, Int.reduceTMod, Int.reduceTDiv, Int.reduceDiv, Int.reduceMod, Int.reduceAdd, Int.reduceSub, Int.reduceMul, Int.reduceNeg, Int.reducePow, Int.reduceEq, ↓reduceIte, Nat.reduceEqDiff, Nat.reduceAdd, Nat.reduceMul, Nat.reduceLeDiff, Nat.reduceSub, Nat.reduceLT, Int.reduceToNat, Int.reduceLT, Int.reduceLE, reduceCtorEq]
    · simp only [q1, go_sem, Int.reduceTMod, Int.reduceTDiv, Int.reduceDiv, Int.reduceMod, Int.reduceAdd, Int.reduceSub, Int.reduceMul, Int.reduceNeg, Int.reducePow, Int.reduceEq, ↓reduceIte, Nat.reduceEqDiff, Nat.reduceAdd, Nat.reduceMul, Nat.reduceLeDiff, Nat.reduceSub, Nat.reduceLT, Int.reduceToNat, Int.reduceLT, Int.reduceLE, reduceCtorEq]
    · simp only [q5, go_sem, Int.reduceTMod, Int.reduceTDiv, Int.reduceDiv, Int.reduceMod, Int.reduceAdd, Int.reduceSub, Int.reduceMul, Int.reduceNeg, Int.reducePow, Int.reduceEq, ↓reduceIte, Nat.reduceEqDiff, Nat.reduceAdd, Nat.reduceMul, Nat.reduceLeDiff, Nat.reduceSub, Nat.reduceLT, Int.reduceToNat, Int.reduceLT, Int.reduceLE, reduceCtorEq]
  · obtain ⟨e, M, N⟩ := s
    obtain ⟨q16, q15, q1, q5, qm, qn⟩ := hs
    simp only at q16 q15 q1 q5 qm qn
    have c2 : ((l.length : Int) < (l.length : Int)) = False := eq_false (by omega)
    try simp only [r28_0, r28_1, r28_2, r28_3, r28_4, r28_5, r28_6, r28_7, r28_8, r28_9, r28_10, c28, F28, l28_0, q16, q15, c2, go_sem, Int.reduceTMod, Int.reduceTDiv, Int.reduceDiv, Int.reduceMod, Int.reduceAdd, Int.reduceSub, Int.reduceMul, Int.reduceNeg, Int.reducePow, Int.reduceEq, ↓reduceIte, Nat.reduceEqDiff, Nat.reduceAdd, Nat.reduceMul, Nat.reduceLeDiff, Nat.reduceSub, Nat.reduceLT, Int.reduceToNat, Int.reduceLT, Int.reduceLE, reduceCtorEq]
    repeat' ((first | refine FK_split (fun h_ => ?_) (fun h_ => ?_) | refine GK_split (fun h_ => ?_) (fun h_ => ?_) | refine ite_both (fun h_ => ?_) (fun h_ => ?_)) <;> (try simp only [decide_eq_true_eq, decide_eq_false_iff_not, Bool.not_true, Bool.not_false, Bool.not_eq_true', Bool.not_eq_false', Bool.not_eq_eq_eq_not, Decidable.not_not] at h_) <;> (try simp only [r28_0, r28_1, r28_2, r28_3, r28_4, r28_5, r28_6, r28_7, r28_8, r28_9, r28_10, c28, F28, l28_0, q16, q15, c2, h_, go_sem, Int.reduceTMod, Int.reduceTDiv, Int.reduceDiv, Int.reduceMod, Int.reduceAdd, Int.reduceSub, Int.reduceMul, Int.reduceNeg, Int.reducePow, Int.reduceEq, ↓reduceIte, Nat.reduceEqDiff, Nat.reduceAdd, Nat.reduceMul, Nat.reduceLeDiff, Nat.reduceSub, Nat.reduceLT, Int.reduceToNat, Int.reduceLT, Int.reduceLE, reduceCtorEq]))
  · simp only [go_sem, Int.reduceTMod, Int.reduceTDiv, Int.reduceDiv, Int.reduceMod, Int.reduceAdd, Int.reduceSub, Int.reduceMul, Int.reduceNeg, Int.reducePow, Int.reduceEq, ↓reduceIte, Nat.reduceEqDiff, Nat.reduceAdd, Nat.reduceMul, Nat.reduceLeDiff, Nat.reduceSub, Nat.reduceLT, Int.reduceToNat, Int.reduceLT, Int.reduceLE, reduceCtorEq]
  · simp only [go_sem, Int.reduceTMod, Int.reduceTDiv, Int.reduceDiv, Int.reduceMod, Int.reduceAdd, Int.reduceSub, Int.reduceMul, Int.reduceNeg, Int.reducePow, Int.reduceEq, ↓reduceIte, Nat.reduceEqDiff, Nat.reduceAdd, Nat.reduceMul, Nat.reduceLeDiff, Nat.reduceSub, Nat.reduceLT, Int.reduceToNat, Int.reduceLT, Int.reduceLE, reduceCtorEq]
  · simp only [go_sem, Int.reduceTMod, Int.reduceTDiv, Int.reduceDiv, Int.reduceMod, Int.reduceAdd, Int.reduceSub, Int.reduceMul, Int.reduceNeg, Int.reducePow, Int.reduceEq, ↓reduceIte, Nat.reduceEqDiff, Nat.reduceAdd, Nat.reduceMul, Nat.reduceLeDiff, Nat.reduceSub, Nat.reduceLT, Int.reduceToNat, Int.reduceLT, Int.reduceLE, reduceCtorEq]
  · simp only [go_sem, Int.reduceTMod, Int.reduceTDiv, Int.reduceDiv, Int.reduceMod, Int.reduceAdd, Int.reduceSub, Int.reduceMul, Int.reduceNeg, Int.reducePow, Int.reduceEq, ↓reduceIte, Nat.reduceEqDiff, Nat.reduceAdd, Nat.reduceMul, Nat.reduceLeDiff, Nat.reduceSub, Nat.reduceLT, Int.reduceToNat, Int.reduceLT, Int.reduceLE, reduceCtorEq]

end Go.Proofs.YtpleidpbapgmiaaDoor.Sy

/- Curves: points, rooms, middles: what the program's small functions come to. Conditions: those that each theorem names. -/
namespace Go.Proofs.YtpleidpbapgmiaaDoor.Sy.Cu
open Go Go.Proofs
set_option linter.unusedSimpArgs false
set_option linter.unusedVariables false
attribute [local go_sem] R_nil R_mv R_pick R_alloc R_box R_build R_bslice R_load1 R_loadA R_store R_nilchk R_bin R_beq R_eqv R_eqnil R_un R_conv R_mkfn R_mkslice R_slS R_slA R_fadr R_fld R_iadrA R_iadrS R_idxA R_ext R_len R_lenC R_cap R_app R_appz R_pre R_cpy R_mn R_mx
  noId Bool.false_or evalOp evO evOs upd_upd upd_at unfrz_at putE_some putE_none Then_some X_seq X_reg X_dreg X_ureg X_ret X_skip X_exit X_block X_condK condK_bool Next_n Next_x Next_r Out_n Out_x Out_r Ret_n Ret_r
  bin_shr1 bin_add bin_sub bin_mul bin_lss bin_leq bin_gtr bin_geq bin_eql bin_neq un_not un_neg boolOf_b boolOf_tup R_guard Option.map_some evRes pack_one pack_two pack_three pack_none List.getD_cons_zero List.getD_cons_succ getD_nil
  Option.some.injEq exists_eq_left' Reg.cs? fillC setL List.set_cons_zero List.set_cons_succ List.length_cons List.length_nil rd_upd rdB wr List.drop_zero List.drop_succ_cons List.take_succ_cons List.take_zero List.getElem?_cons_zero List.getElem?_cons_succ
  ix Int.toNat_zero lenO_sl lenO_nil sn1 ns1 sn2 ns2 sn3 ns3 sn4 ns4 sn5 ns5 sn6 ns6 sn7 ns7 sn8 ns8 sn9 ns9 sn10 ns10 sn11 ns11 sn12 ns12 sk1_2 sk1_3 sk1_4 sk1_5 sk1_6 sk1_7 sk1_8 sk2_1 sk2_3 sk2_4 sk2_5 sk2_6 sk2_7 sk2_8 sk3_1 sk3_2 sk3_4 sk3_5 sk3_6 sk3_7 sk3_8 sk4_1 sk4_2 sk4_3 sk4_5 sk4_6 sk4_7 sk4_8 sk5_1 sk5_2 sk5_3 sk5_4 sk5_6 sk5_7 sk5_8 sk6_1 sk6_2 sk6_3 sk6_4 sk6_5 sk6_7 sk6_8 sk7_1 sk7_2 sk7_3 sk7_4 sk7_5 sk7_6 sk7_8 sk8_1 sk8_2 sk8_3 sk8_4 sk8_5 sk8_6 sk8_7

theorem In52 (a : Int) (m : Mem) (n : Nat) : Fn TA 49 [RI a] m n (fun r _ _ => r = RB (rm a)) := by
  refine Fn_of (fn := F49) rfl (by simp [F49]) ?_
  by_cases h : -2147483648 ≤ a
  · simp only [F49, c49, r49_0, r49_1, h, rm, Bool.true_and, go_sem, Int.reduceTMod, Int.reduceTDiv, Int.reduceDiv, Int.reduceMod, Int.reduceAdd, Int.reduceSub, Int.reduceMul, Int.reduceNeg, Int.reducePow, Int.reduceEq, bne_iff_ne, Int.cast_ofNat_Int, ↓reduceIte, Nat.reduceEqDiff, Nat.reduceAdd, Nat.reduceMul, Nat.reduceLeDiff, Nat.reduceSub, Nat.reduceLT, Int.reduceToNat, Int.reduceLT, Int.reduceLE, reduceCtorEq, Nat.zero_add, Nat.add_zero, and_self, and_true, true_and, ne_eq, not_false_eq_true, not_true_eq_false, decide_true, decide_false, Bool.false_eq_true, Bool.not_true, Bool.not_false, Bool.true_and, Bool.and_true, Bool.or_false, Bool.false_or, Bool.and_self]
  · simp only [F49, c49, r49_0, r49_1, h, rm, Bool.false_and, go_sem, Int.reduceTMod, Int.reduceTDiv, Int.reduceDiv, Int.reduceMod, Int.reduceAdd, Int.reduceSub, Int.reduceMul, Int.reduceNeg, Int.reducePow, Int.reduceEq, bne_iff_ne, Int.cast_ofNat_Int, ↓reduceIte, Nat.reduceEqDiff, Nat.reduceAdd, Nat.reduceMul, Nat.reduceLeDiff, Nat.reduceSub, Nat.reduceLT, Int.reduceToNat, Int.reduceLT, Int.reduceLE, reduceCtorEq, Nat.zero_add, Nat.add_zero, and_self, and_true, true_and, ne_eq, not_false_eq_true, not_true_eq_false, decide_true, decide_false, Bool.false_eq_true, Bool.not_true, Bool.not_false, Bool.true_and, Bool.and_true, Bool.or_false, Bool.false_or, Bool.and_self]

theorem PIn50 (p : Pt) (m : Mem) (n : Nat) : Fn TA 40 [p.r] m n (fun r _ _ => r = RB (inP p)) := by
  refine Fn_of (fn := F40) rfl (by simp [F40]) ?_
  simp only [F40, c40, r40_0, r40_1, go_sem, Int.reduceTMod, Int.reduceTDiv, Int.reduceDiv, Int.reduceMod, Int.reduceAdd, Int.reduceSub, Int.reduceMul, Int.reduceNeg, Int.reducePow, Int.reduceEq, bne_iff_ne, Int.cast_ofNat_Int, ↓reduceIte, Nat.reduceEqDiff, Nat.reduceAdd, Nat.reduceMul, Nat.reduceLeDiff, Nat.reduceSub, Nat.reduceLT, Int.reduceToNat, Int.reduceLT, Int.reduceLE, reduceCtorEq, Nat.zero_add, Nat.add_zero, and_self, and_true, true_and, ne_eq, not_false_eq_true, not_true_eq_false, decide_true, decide_false, Bool.false_eq_true, Bool.not_true, Bool.not_false, Bool.true_and, Bool.and_true, Bool.or_false, Bool.false_or, Bool.and_self]
  refine R_callz (by first | (simp only [flats, Reg.flat, Cell.flat, List.all_cons, List.all_nil, Bool.and_self, go_sem, Int.reduceTMod, Int.reduceTDiv, Int.reduceDiv, Int.reduceMod, Int.reduceAdd, Int.reduceSub, Int.reduceMul, Int.reduceNeg, Int.reducePow, Int.reduceEq, bne_iff_ne, Int.cast_ofNat_Int, ↓reduceIte, Nat.reduceEqDiff, Nat.reduceAdd, Nat.reduceMul, Nat.reduceLeDiff, Nat.reduceSub, Nat.reduceLT, Int.reduceToNat, Int.reduceLT, Int.reduceLE, reduceCtorEq, Nat.zero_add, Nat.add_zero, and_self, and_true, true_and, ne_eq, not_false_eq_true, not_true_eq_false, decide_true, decide_false, Bool.false_eq_true, Bool.not_true, Bool.not_false, Bool.true_and, Bool.and_true, Bool.or_false, Bool.false_or, Bool.and_self]; done) | rfl) ?_
  try simp only [go_sem, Int.reduceTMod, Int.reduceTDiv, Int.reduceDiv, Int.reduceMod, Int.reduceAdd, Int.reduceSub, Int.reduceMul, Int.reduceNeg, Int.reducePow, Int.reduceEq, bne_iff_ne, Int.cast_ofNat_Int, ↓reduceIte, Nat.reduceEqDiff, Nat.reduceAdd, Nat.reduceMul, Nat.reduceLeDiff, Nat.reduceSub, Nat.reduceLT, Int.reduceToNat, Int.reduceLT, Int.reduceLE, reduceCtorEq, Nat.zero_add, Nat.add_zero, and_self, and_true, true_and, ne_eq, not_false_eq_true, not_true_eq_false, decide_true, decide_false, Bool.false_eq_true, Bool.not_true, Bool.not_false, Bool.true_and, Bool.and_true, Bool.or_false, Bool.false_or, Bool.and_self]
  refine Fn.mono (In52 p.x _ _) ?_
  rintro _ _ _ rfl
  refine ⟨rfl, ?_⟩
  try simp only [go_sem, Int.reduceTMod, Int.reduceTDiv, Int.reduceDiv, Int.reduceMod, Int.reduceAdd, Int.reduceSub, Int.reduceMul, Int.reduceNeg, Int.reducePow, Int.reduceEq, bne_iff_ne, Int.cast_ofNat_Int, ↓reduceIte, Nat.reduceEqDiff, Nat.reduceAdd, Nat.reduceMul, Nat.reduceLeDiff, Nat.reduceSub, Nat.reduceLT, Int.reduceToNat, Int.reduceLT, Int.reduceLE, reduceCtorEq, Nat.zero_add, Nat.add_zero, and_self, and_true, true_and, ne_eq, not_false_eq_true, not_true_eq_false, decide_true, decide_false, Bool.false_eq_true, Bool.not_true, Bool.not_false, Bool.true_and, Bool.and_true, Bool.or_false, Bool.false_or, Bool.and_self]
  cases h : rm p.x
  · simp only [inP, h, Bool.false_and, go_sem, Int.reduceTMod, Int.reduceTDiv, Int.reduceDiv, Int.reduceMod, Int.reduceAdd, Int.reduceSub, Int.reduceMul, Int.reduceNeg, Int.reducePow, Int.reduceEq, bne_iff_ne, Int.cast_ofNat_Int, ↓reduceIte, Nat.reduceEqDiff, Nat.reduceAdd, Nat.reduceMul, Nat.reduceLeDiff, Nat.reduceSub, Nat.reduceLT, Int.reduceToNat, Int.reduceLT, Int.reduceLE, reduceCtorEq, Nat.zero_add, Nat.add_zero, and_self, and_true, true_and, ne_eq, not_false_eq_true, not_true_eq_false, decide_true, decide_false, Bool.false_eq_true, Bool.not_true, Bool.not_false, Bool.true_and, Bool.and_true, Bool.or_false, Bool.false_or, Bool.and_self]
  · simp only [inP, h, Bool.true_and, go_sem, Int.reduceTMod, Int.reduceTDiv, Int.reduceDiv, Int.reduceMod, Int.reduceAdd, Int.reduceSub, Int.reduceMul, Int.reduceNeg, Int.reducePow, Int.reduceEq, bne_iff_ne, Int.cast_ofNat_Int, ↓reduceIte, Nat.reduceEqDiff, Nat.reduceAdd, Nat.reduceMul, Nat.reduceLeDiff, Nat.reduceSub, Nat.reduceLT, Int.reduceToNat, Int.reduceLT, Int.reduceLE, reduceCtorEq, Nat.zero_add, Nat.add_zero, and_self, and_true, true_and, ne_eq, not_false_eq_true, not_true_eq_false, decide_true, decide_false, Bool.false_eq_true, Bool.not_true, Bool.not_false, Bool.true_and, Bool.and_true, Bool.or_false, Bool.false_or, Bool.and_self]
    refine R_callz (by first | (simp only [flats, Reg.flat, Cell.flat, List.all_cons, List.all_nil, Bool.and_self, go_sem, Int.reduceTMod, Int.reduceTDiv, Int.reduceDiv, Int.reduceMod, Int.reduceAdd, Int.reduceSub, Int.reduceMul, Int.reduceNeg, Int.reducePow, Int.reduceEq, bne_iff_ne, Int.cast_ofNat_Int, ↓reduceIte, Nat.reduceEqDiff, Nat.reduceAdd, Nat.reduceMul, Nat.reduceLeDiff, Nat.reduceSub, Nat.reduceLT, Int.reduceToNat, Int.reduceLT, Int.reduceLE, reduceCtorEq, Nat.zero_add, Nat.add_zero, and_self, and_true, true_and, ne_eq, not_false_eq_true, not_true_eq_false, decide_true, decide_false, Bool.false_eq_true, Bool.not_true, Bool.not_false, Bool.true_and, Bool.and_true, Bool.or_false, Bool.false_or, Bool.and_self]; done) | rfl) ?_
    try simp only [go_sem, Int.reduceTMod, Int.reduceTDiv, Int.reduceDiv, Int.reduceMod, Int.reduceAdd, Int.reduceSub, Int.reduceMul, Int.reduceNeg, Int.reducePow, Int.reduceEq, bne_iff_ne, Int.cast_ofNat_Int, ↓reduceIte, Nat.reduceEqDiff, Nat.reduceAdd, Nat.reduceMul, Nat.reduceLeDiff, Nat.reduceSub, Nat.reduceLT, Int.reduceToNat, Int.reduceLT, Int.reduceLE, reduceCtorEq, Nat.zero_add, Nat.add_zero, and_self, and_true, true_and, ne_eq, not_false_eq_true, not_true_eq_false, decide_true, decide_false, Bool.false_eq_true, Bool.not_true, Bool.not_false, Bool.true_and, Bool.and_true, Bool.or_false, Bool.false_or, Bool.and_self]
    refine Fn.mono (In52 p.y _ _) ?_
    rintro _ _ _ rfl
    refine ⟨rfl, ?_⟩
    try simp only [go_sem, Int.reduceTMod, Int.reduceTDiv, Int.reduceDiv, Int.reduceMod, Int.reduceAdd, Int.reduceSub, Int.reduceMul, Int.reduceNeg, Int.reducePow, Int.reduceEq, bne_iff_ne, Int.cast_ofNat_Int, ↓reduceIte, Nat.reduceEqDiff, Nat.reduceAdd, Nat.reduceMul, Nat.reduceLeDiff, Nat.reduceSub, Nat.reduceLT, Int.reduceToNat, Int.reduceLT, Int.reduceLE, reduceCtorEq, Nat.zero_add, Nat.add_zero, and_self, and_true, true_and, ne_eq, not_false_eq_true, not_true_eq_false, decide_true, decide_false, Bool.false_eq_true, Bool.not_true, Bool.not_false, Bool.true_and, Bool.and_true, Bool.or_false, Bool.false_or, Bool.and_self]

theorem Mid47 (p q : Pt) (m : Mem) (n : Nat) : Fn TA 43 [p.r, q.r] m n (fun r _ _ => r = .agg [I ((IntKind.i64.wrap (p.x + q.x)) / 2), I ((IntKind.i64.wrap (p.y + q.y)) / 2)]) := by
  refine Fn_of (fn := F43) rfl (by simp [F43]) ?_
  simp only [F43, c43, r43_0, r43_1, go_sem, Int.reduceTMod, Int.reduceTDiv, Int.reduceDiv, Int.reduceMod, Int.reduceAdd, Int.reduceSub, Int.reduceMul, Int.reduceNeg, Int.reducePow, Int.reduceEq, bne_iff_ne, Int.cast_ofNat_Int, ↓reduceIte, Nat.reduceEqDiff, Nat.reduceAdd, Nat.reduceMul, Nat.reduceLeDiff, Nat.reduceSub, Nat.reduceLT, Int.reduceToNat, Int.reduceLT, Int.reduceLE, reduceCtorEq, Nat.zero_add, Nat.add_zero, and_self, and_true, true_and, ne_eq, not_false_eq_true, not_true_eq_false, decide_true, decide_false, Bool.false_eq_true, Bool.not_true, Bool.not_false, Bool.true_and, Bool.and_true, Bool.or_false, Bool.false_or, Bool.and_self]

theorem f67 (p : Pt) (m : Mem) (n : Nat) : Fn TA 62 [p.r] m n (fun r _ _ => r = RB (!inP p)) := by
  refine Fn_of (fn := F62) rfl (by simp [F62]) ?_
  simp only [F62, c62, r62_0, r62_1, go_sem, Int.reduceTMod, Int.reduceTDiv, Int.reduceDiv, Int.reduceMod, Int.reduceAdd, Int.reduceSub, Int.reduceMul, Int.reduceNeg, Int.reducePow, Int.reduceEq, bne_iff_ne, Int.cast_ofNat_Int, ↓reduceIte, Nat.reduceEqDiff, Nat.reduceAdd, Nat.reduceMul, Nat.reduceLeDiff, Nat.reduceSub, Nat.reduceLT, Int.reduceToNat, Int.reduceLT, Int.reduceLE, reduceCtorEq, Nat.zero_add, Nat.add_zero, and_self, and_true, true_and, ne_eq, not_false_eq_true, not_true_eq_false, decide_true, decide_false, Bool.false_eq_true, Bool.not_true, Bool.not_false, Bool.true_and, Bool.and_true, Bool.or_false, Bool.false_or, Bool.and_self]
  refine R_callz (by first | (simp only [flats, Reg.flat, Cell.flat, List.all_cons, List.all_nil, Bool.and_self, go_sem, Int.reduceTMod, Int.reduceTDiv, Int.reduceDiv, Int.reduceMod, Int.reduceAdd, Int.reduceSub, Int.reduceMul, Int.reduceNeg, Int.reducePow, Int.reduceEq, bne_iff_ne, Int.cast_ofNat_Int, ↓reduceIte, Nat.reduceEqDiff, Nat.reduceAdd, Nat.reduceMul, Nat.reduceLeDiff, Nat.reduceSub, Nat.reduceLT, Int.reduceToNat, Int.reduceLT, Int.reduceLE, reduceCtorEq, Nat.zero_add, Nat.add_zero, and_self, and_true, true_and, ne_eq, not_false_eq_true, not_true_eq_false, decide_true, decide_false, Bool.false_eq_true, Bool.not_true, Bool.not_false, Bool.true_and, Bool.and_true, Bool.or_false, Bool.false_or, Bool.and_self]; done) | rfl) ?_
  try simp only [go_sem, Int.reduceTMod, Int.reduceTDiv, Int.reduceDiv, Int.reduceMod, Int.reduceAdd, Int.reduceSub, Int.reduceMul, Int.reduceNeg, Int.reducePow, Int.reduceEq, bne_iff_ne, Int.cast_ofNat_Int, ↓reduceIte, Nat.reduceEqDiff, Nat.reduceAdd, Nat.reduceMul, Nat.reduceLeDiff, Nat.reduceSub, Nat.reduceLT, Int.reduceToNat, Int.reduceLT, Int.reduceLE, reduceCtorEq, Nat.zero_add, Nat.add_zero, and_self, and_true, true_and, ne_eq, not_false_eq_true, not_true_eq_false, decide_true, decide_false, Bool.false_eq_true, Bool.not_true, Bool.not_false, Bool.true_and, Bool.and_true, Bool.or_false, Bool.false_or, Bool.and_self]
  refine Fn.mono (PIn50 p _ _) ?_
  rintro _ _ _ rfl
  refine ⟨rfl, ?_⟩
  try simp only [go_sem, Int.reduceTMod, Int.reduceTDiv, Int.reduceDiv, Int.reduceMod, Int.reduceAdd, Int.reduceSub, Int.reduceMul, Int.reduceNeg, Int.reducePow, Int.reduceEq, bne_iff_ne, Int.cast_ofNat_Int, ↓reduceIte, Nat.reduceEqDiff, Nat.reduceAdd, Nat.reduceMul, Nat.reduceLeDiff, Nat.reduceSub, Nat.reduceLT, Int.reduceToNat, Int.reduceLT, Int.reduceLE, reduceCtorEq, Nat.zero_add, Nat.add_zero, and_self, and_true, true_and, ne_eq, not_false_eq_true, not_true_eq_false, decide_true, decide_false, Bool.false_eq_true, Bool.not_true, Bool.not_false, Bool.true_and, Bool.and_true, Bool.or_false, Bool.false_or, Bool.and_self]

end Go.Proofs.YtpleidpbapgmiaaDoor.Sy.Cu

/- Curves: is a list of points a curve? copies, comparisons. Conditions: those that each theorem names. -/
namespace Go.Proofs.YtpleidpbapgmiaaDoor.Sy.Cu
open Go Go.Proofs
set_option linter.unusedSimpArgs false
set_option linter.unusedVariables false
attribute [local go_sem] R_nil R_mv R_pick R_alloc R_box R_build R_bslice R_load1 R_loadA R_store R_nilchk R_bin R_beq R_eqv R_eqnil R_un R_conv R_mkfn R_mkslice R_slS R_slA R_fadr R_fld R_iadrA R_iadrS R_idxA R_ext R_len R_lenC R_cap R_app R_appz R_pre R_cpy R_mn R_mx
  noId Bool.false_or evalOp evO evOs upd_upd upd_at unfrz_at putE_some putE_none Then_some X_seq X_reg X_dreg X_ureg X_ret X_skip X_exit X_block X_condK condK_bool Next_n Next_x Next_r Out_n Out_x Out_r Ret_n Ret_r
  bin_shr1 bin_add bin_sub bin_mul bin_lss bin_leq bin_gtr bin_geq bin_eql bin_neq un_not un_neg boolOf_b boolOf_tup R_guard Option.map_some evRes pack_one pack_two pack_three pack_none List.getD_cons_zero List.getD_cons_succ getD_nil
  Option.some.injEq exists_eq_left' Reg.cs? fillC setL List.set_cons_zero List.set_cons_succ List.length_cons List.length_nil rd_upd rdB wr List.drop_zero List.drop_succ_cons List.take_succ_cons List.take_zero List.getElem?_cons_zero List.getElem?_cons_succ
  ix Int.toNat_zero lenO_sl lenO_nil sn1 ns1 sn2 ns2 sn3 ns3 sn4 ns4 sn5 ns5 sn6 ns6 sn7 ns7 sn8 ns8 sn9 ns9 sn10 ns10 sn11 ns11 sn12 ns12 sk1_2 sk1_3 sk1_4 sk1_5 sk1_6 sk1_7 sk1_8 sk2_1 sk2_3 sk2_4 sk2_5 sk2_6 sk2_7 sk2_8 sk3_1 sk3_2 sk3_4 sk3_5 sk3_6 sk3_7 sk3_8 sk4_1 sk4_2 sk4_3 sk4_5 sk4_6 sk4_7 sk4_8 sk5_1 sk5_2 sk5_3 sk5_4 sk5_6 sk5_7 sk5_8 sk6_1 sk6_2 sk6_3 sk6_4 sk6_5 sk6_7 sk6_8 sk7_1 sk7_2 sk7_3 sk7_4 sk7_5 sk7_6 sk7_8 sk8_1 sk8_2 sk8_3 sk8_4 sk8_5 sk8_6 sk8_7

abbrev encP (l : List Pt) : List Cell := l.flatMap Pt.cs
/-- A slice of points. -/
abbrev RP (m : Mem) (n : Nat) (r : Reg) (l : List Pt) : Prop := Rd m n r (encP l) l.length 2

theorem RP.sl {m : Mem} {n : Nat} {r : Reg} {l : List Pt} {i : Nat} (h : RP m n r l) (hi : i < l.length) : ∃ id off cap, r = .one (.sl id off l.length cap 2) ∧ id < n ∧ rd m id (off + i * 2) 2 = some [I l[i].x, I l[i].y] := by
  rcases h with ⟨_, h, _⟩ | ⟨id, off, cap, h1, h2, h3⟩
  · omega
  · exact ⟨id, off, cap, h1, h2, rd_at cs2 h3 (List.getElem?_eq_getElem hi)⟩

theorem take_succ_all {l : List Pt} {i : Nat} (hi : i < l.length) {p : Pt → Bool} : (l.take (i + 1)).all p = ((l.take i).all p && p l[i]) := by
  rw [List.take_succ_eq_append_getElem hi, List.all_append]; simp
theorem all_false_of {l : List Pt} {i : Nat} (hi : i < l.length) {p : Pt → Bool} (h : p l[i] = false) : l.all p = false := by
  rw [List.all_eq_false]; exact ⟨l[i], List.getElem_mem hi, by simp [h]⟩

end Go.Proofs.YtpleidpbapgmiaaDoor.Sy.Cu
