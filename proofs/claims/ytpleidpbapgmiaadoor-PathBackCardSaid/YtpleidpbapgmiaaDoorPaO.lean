/- The law PathEdits walked. Conditions: those that each theorem names. -/
import Derived.Test.YtpleidpbapgmiaaDoorPaN
namespace Go.Proofs.YtpleidpbapgmiaaDoor.Sy
open Go Go.Proofs
set_option linter.unusedSimpArgs false
set_option linter.unusedVariables false
set_option maxRecDepth 20000
attribute [local go_sem] XK_seq XK_block XK_skip XK_exit XK_ret XK_cond XK_reg XK_dreg XK_ureg KN_seq KN_blk KN_lp KN_chk KN_chku KN_top KN_fin KX_seq KX_lp KX_blk KX_chk KX_top KR_seq KR_blk KR_lp KR_chk KR_top KR_fin FK_true FK_false RK_nil RK_mv RK_pick RK_alloc RK_box RK_build RK_bslice RK_load1 RK_loadA RK_store RK_nilchk RK_bin RK_beq RK_eqv RK_eqnil RK_un RK_conv RK_mkfn RK_mkslice RK_slS RK_slA RK_fadr RK_fld RK_iadrA RK_iadrS RK_idxA RK_ext RK_lenC RK_cap RK_app RK_appz RK_cpy RK_mn RK_mx RK_len RK_carry RK_clr carryR um0 um1 ThenK_some RK_guard GK_tt GK_ff GK_tf GK_ft GK_none QK_some RK_callQ RK_callZ RK_callT TK_some VK_clo RK_callV
  evalOp evO evOs upd_at unfrz_at putE_some putE_none boolOf_b boolOf_tup Option.map_some evRes pack_one pack_two pack_three pack_none List.getD_cons_zero List.getD_cons_succ getD_nil
  Option.some.injEq exists_eq_left' Reg.cs? fillC setL List.set_cons_zero List.set_cons_succ List.length_cons List.length_nil rd_upd rd_updn rdB wr List.drop_zero List.drop_succ_cons List.take_succ_cons List.take_zero List.getElem?_cons_zero List.getElem?_cons_succ
  ix Int.toNat_zero lenO_sl lenO_nil nadd na_eq na_eq' na_lt na_ee na_ll na_ne na_ne' na_tt
attribute [local go_sem] Reg.flat_one Reg.flat_agg Reg.flat_tup flats_nil flats_cons Cell.flat_sc Cell.flat_ptr List.all_cons List.all_nil disOk safeOk safeR decide_eq_true_eq decide_eq_false_iff_not
  List.map_cons List.map_nil List.cons_append List.nil_append List.append_nil evalOp.capsOf Bool.false_bne Bool.bne_false Bool.true_bne Bool.bne_true bne_self_eq_false beq_self_eq_true Bool.not_not Bool.false_and Bool.and_false Bool.true_or Bool.or_true beq_iff_eq eqCells
  Bool.true_beq Bool.false_beq Bool.not_eq_true' Bool.not_eq_eq_eq_not Bool.not_eq_false' and_false false_and frz_at idOf noId Option.isSome_some Bool.and_eq_true
attribute [local go_sem] wr_eq bV_add bV_sub bV_mul bV_eql bV_neq bV_lss bV_leq bV_gtr bV_geq bV_quo bV_rem bV_shr bV_shl uV_not uV_neg wrapU bits_and bits_or bits_xor IntKind.bits Nat.min_eq_left Nat.min_eq_right Nat.min_self
attribute [local go_sem] bne_iff_ne Int.cast_ofNat_Int Nat.zero_add Nat.add_zero and_self and_true true_and ne_eq not_false_eq_true not_true_eq_false decide_true decide_false Bool.false_eq_true Bool.not_true Bool.not_false Bool.true_and Bool.and_true Bool.or_false Bool.false_or Bool.and_self

theorem RL.up {α : Type} {enc : α → List Cell} {sz : Nat} {M m' : Mem} {N n' : Nat} {r : Reg} {l : List α} (h : RL enc sz M N r l) (hn : N ≤ n') : RL enc sz (unfrz M N m') n' r l := h.keep hn (fun id hid => by rw [unfrz_at, if_pos hid])
theorem RL.nw {α : Type} {enc : α → List Cell} {sz : Nat} {M m' : Mem} {N n' : Nat} {r : Reg} {l : List α} (h : RL enc sz m' n' r l) (hs : ∀ j, sid r = some j → N ≤ j) : RL enc sz (unfrz M N m') n' r l :=
  h.keep' (Nat.le_refl _) (fun id hid => by rw [unfrz_at, if_neg (by have := hs id hid; omega)])
def EdR (e : Int) (l' : List Sg) (M : Mem) (N : Nat) (x : Reg) : Prop := (e ≠ 0 ∧ x = rnil) ∨ (e = 0 ∧ RSg M N x l' ∧ capN x)
theorem EdR.up {e : Int} {l' : List Sg} {M m' : Mem} {N n' : Nat} {x : Reg} (h : EdR e l' M N x) (hn : N ≤ n') : EdR e l' (unfrz M N m') n' x := by
  rcases h with h | ⟨h1, h2, h3⟩
  · exact Or.inl h
  · exact Or.inr ⟨h1, h2.up hn, h3⟩
theorem EdR.keep {e : Int} {l' : List Sg} {M M' : Mem} {N n' : Nat} {x : Reg} (h : EdR e l' M N x) (hn : N ≤ n') (hm : ∀ id, id < N → M' id = M id) : EdR e l' M' n' x := by
  rcases h with h | ⟨h1, h2, h3⟩
  · exact Or.inl h
  · exact Or.inr ⟨h1, h2.keep hn hm, h3⟩
theorem EdR.is {e : Int} {l' : List Sg} {M : Mem} {N : Nat} {x : Reg} (h : EdR e l' M N x) : (e ≠ 0 ∧ x = rnil) ∨ (e = 0 ∧ RSg (frz M) N x l') := by
  rcases h with h | ⟨h1, h2, h3⟩
  · exact Or.inl h
  · exact Or.inr ⟨h1, h2.frz⟩
theorem EdQ.out {e : Int} {l' : List Sg} {M m' : Mem} {N n' : Nat} {r' : Reg} (h : EdQ e l' N r' m' n') : ∃ x, r' = .tup [x, RI e] ∧ N ≤ n' ∧ EdR e l' (unfrz M N m') n' x := by
  obtain ⟨x, h1, h2, h3⟩ := h
  refine ⟨x, h1, h2, ?_⟩
  rcases h3 with h | ⟨h4, h5, h6, h7⟩
  · exact Or.inl h
  · exact Or.inr ⟨h4, h5.nw h7, h6⟩
abbrev zC (c : Cell) (i k : Int) (s : Sg) (p : Pt) : List Cell := [c, I i, I k, I s.k, I s.a.x, I s.a.y, I s.b.x, I s.b.y, I s.c.x, I s.c.y, I p.x, I p.y]
set_option maxHeartbeats 8000000 in
theorem law7 (c : Cell) (l : List Sg) (i k : Int) (s : Sg) (p : Pt) (m : Mem) (n : Nat) (hr : RSg m n (.one c) l) (hc : capN (.one c)) (hn : 0 < n) (o : Bool) (h0 : m 0 = some ⟨needC, o⟩) :
    Fn TA 7 [.agg (zC c i k s p)] m n (fun r _ _ => r = RB true) := by
  refine Fn_ofK (fn := F7) rfl (by simp [F7]) ?_
  have hlen := hr.len
  have hnz : (0 = n) = False := eq_false (by omega)
  have a1 : lenO rnil = some 0 := rfl
  by_cases g : 100 < (l.length : Int)
  · skip
    try simp only [r7_0, r7_1, r7_2, r7_3, r7_4, r7_5, r7_6, r7_7, r7_8, r7_9, r7_10, r7_11, r7_12, r7_13, r7_14, r7_15, r7_16, r7_17, r7_18, r7_19, r7_20, r7_21, r7_22, r7_23, r7_24, c7, F7, hlen, g, hnz, h0, needC_flat, v_awake06, go_sem, Int.reduceTMod, Int.reduceTDiv, Int.reduceDiv, Int.reduceMod, Int.reduceAdd, Int.reduceSub, Int.reduceMul, Int.reduceNeg, Int.reducePow, Int.reduceEq, ↓reduceIte, Nat.reduceEqDiff, Nat.reduceAdd, Nat.reduceMul, Nat.reduceLeDiff, Nat.reduceSub, Nat.reduceLT, Int.reduceToNat, Int.reduceLT, Int.reduceLE, reduceCtorEq]
    repeat' ((first | refine FK_split (fun h_ => ?_) (fun h_ => ?_) | refine GK_split (fun h_ => ?_) (fun h_ => ?_) | refine ite_both (fun h_ => ?_) (fun h_ => ?_)) <;> (try simp only [decide_eq_true_eq, decide_eq_false_iff_not, Bool.not_true, Bool.not_false, Bool.not_eq_true', Bool.not_eq_false', Bool.not_eq_eq_eq_not, Decidable.not_not] at h_) <;> (try simp only [r7_0, r7_1, r7_2, r7_3, r7_4, r7_5, r7_6, r7_7, r7_8, r7_9, r7_10, r7_11, r7_12, r7_13, r7_14, r7_15, r7_16, r7_17, r7_18, r7_19, r7_20, r7_21, r7_22, r7_23, r7_24, c7, F7, hlen, g, hnz, h0, needC_flat, v_awake06, h_, go_sem, Int.reduceTMod, Int.reduceTDiv, Int.reduceDiv, Int.reduceMod, Int.reduceAdd, Int.reduceSub, Int.reduceMul, Int.reduceNeg, Int.reducePow, Int.reduceEq, ↓reduceIte, Nat.reduceEqDiff, Nat.reduceAdd, Nat.reduceMul, Nat.reduceLeDiff, Nat.reduceSub, Nat.reduceLT, Int.reduceToNat, Int.reduceLT, Int.reduceLE, reduceCtorEq]))
  have hr0 : RSg (upd m n (some ⟨zC c i k s p, true⟩)) (n + 1) (.one c) l := hr.keep (by omega) (fun id hid => upd_ne _ _ (by omega))
  try simp only [r7_0, r7_1, r7_2, r7_3, r7_4, r7_5, r7_6, r7_7, r7_8, r7_9, r7_10, r7_11, r7_12, r7_13, r7_14, r7_15, r7_16, r7_17, r7_18, r7_19, r7_20, r7_21, r7_22, r7_23, r7_24, c7, F7, hlen, g, go_sem, Int.reduceTMod, Int.reduceTDiv, Int.reduceDiv, Int.reduceMod, Int.reduceAdd, Int.reduceSub, Int.reduceMul, Int.reduceNeg, Int.reducePow, Int.reduceEq, ↓reduceIte, Nat.reduceEqDiff, Nat.reduceAdd, Nat.reduceMul, Nat.reduceLeDiff, Nat.reduceSub, Nat.reduceLT, Int.reduceToNat, Int.reduceLT, Int.reduceLE, reduceCtorEq]
  repeat' ((first | refine FK_split (fun h_ => ?_) (fun h_ => ?_) | refine GK_split (fun h_ => ?_) (fun h_ => ?_) | refine ite_both (fun h_ => ?_) (fun h_ => ?_)) <;> (try simp only [decide_eq_true_eq, decide_eq_false_iff_not, Bool.not_true, Bool.not_false, Bool.not_eq_true', Bool.not_eq_false', Bool.not_eq_eq_eq_not, Decidable.not_not] at h_) <;> (try simp only [r7_0, r7_1, r7_2, r7_3, r7_4, r7_5, r7_6, r7_7, r7_8, r7_9, r7_10, r7_11, r7_12, r7_13, r7_14, r7_15, r7_16, r7_17, r7_18, r7_19, r7_20, r7_21, r7_22, r7_23, r7_24, c7, F7, hlen, g, h_, go_sem, Int.reduceTMod, Int.reduceTDiv, Int.reduceDiv, Int.reduceMod, Int.reduceAdd, Int.reduceSub, Int.reduceMul, Int.reduceNeg, Int.reducePow, Int.reduceEq, ↓reduceIte, Nat.reduceEqDiff, Nat.reduceAdd, Nat.reduceMul, Nat.reduceLeDiff, Nat.reduceSub, Nat.reduceLT, Int.reduceToNat, Int.reduceLT, Int.reduceLE, reduceCtorEq]))
  refine RK_callk ?_
  refine (w_ref hr0.frz (by omega)).mono ?_
  rintro r1 m1 n1 ⟨ho1, hn1⟩
  rw [show max (n + 1) n1 = n1 by omega]
  have hx1 : RSg (unfrz (upd m n (some ⟨zC c i k s p, true⟩)) (n + 1) m1) n1 r1 l := (ho1.rl cs7).nw (fun j hj => ho1.sidge hj)
  have hb1 : (unfrz (upd m n (some ⟨zC c i k s p, true⟩)) (n + 1) m1) n = some ⟨zC c i k s p, true⟩ := by rw [unfrz_at, if_pos (by omega), upd_same]
  have hz1 : (unfrz (upd m n (some ⟨zC c i k s p, true⟩)) (n + 1) m1) 0 = some ⟨needC, o⟩ := by rw [unfrz_at, if_pos (by omega), upd_ne _ _ (by omega)]; exact h0
  have hr1 := hr0.up (m' := m1) hn1
  generalize unfrz (upd m n (some ⟨zC c i k s p, true⟩)) (n + 1) m1 = M1 at *
  have vC := v_rCheck hx1.frz
  try simp only [r7_0, r7_1, r7_2, r7_3, r7_4, r7_5, r7_6, r7_7, r7_8, r7_9, r7_10, r7_11, r7_12, r7_13, r7_14, r7_15, r7_16, r7_17, r7_18, r7_19, r7_20, r7_21, r7_22, r7_23, r7_24, c7, F7, vC, hb1, rd_of hb1, go_sem, Int.reduceTMod, Int.reduceTDiv, Int.reduceDiv, Int.reduceMod, Int.reduceAdd, Int.reduceSub, Int.reduceMul, Int.reduceNeg, Int.reducePow, Int.reduceEq, ↓reduceIte, Nat.reduceEqDiff, Nat.reduceAdd, Nat.reduceMul, Nat.reduceLeDiff, Nat.reduceSub, Nat.reduceLT, Int.reduceToNat, Int.reduceLT, Int.reduceLE, reduceCtorEq]
  repeat' ((first | refine FK_split (fun h_ => ?_) (fun h_ => ?_) | refine GK_split (fun h_ => ?_) (fun h_ => ?_) | refine ite_both (fun h_ => ?_) (fun h_ => ?_)) <;> (try simp only [decide_eq_true_eq, decide_eq_false_iff_not, Bool.not_true, Bool.not_false, Bool.not_eq_true', Bool.not_eq_false', Bool.not_eq_eq_eq_not, Decidable.not_not] at h_) <;> (try simp only [r7_0, r7_1, r7_2, r7_3, r7_4, r7_5, r7_6, r7_7, r7_8, r7_9, r7_10, r7_11, r7_12, r7_13, r7_14, r7_15, r7_16, r7_17, r7_18, r7_19, r7_20, r7_21, r7_22, r7_23, r7_24, c7, F7, vC, hb1, rd_of hb1, h_, go_sem, Int.reduceTMod, Int.reduceTDiv, Int.reduceDiv, Int.reduceMod, Int.reduceAdd, Int.reduceSub, Int.reduceMul, Int.reduceNeg, Int.reducePow, Int.reduceEq, ↓reduceIte, Nat.reduceEqDiff, Nat.reduceAdd, Nat.reduceMul, Nat.reduceLeDiff, Nat.reduceSub, Nat.reduceLT, Int.reduceToNat, Int.reduceLT, Int.reduceLE, reduceCtorEq]))
  refine RK_callk ?_
  refine (w_Put i k p hr1.frz (by rw [frz_at, hz1]; rfl) (by omega) (by omega)).mono ?_
  intro r2 m2 n2 h2
  obtain ⟨x2, rfl, hn2, hq2⟩ := h2.out (M := M1)
  rw [show max n1 n2 = n2 by omega]
  have hx2 := hx1.up (m' := m2) hn2
  have hr2 := hr1.up (m' := m2) hn2
  have hb2 : unfrz M1 n1 m2 n = some ⟨zC c i k s p, true⟩ := by rw [unfrz_at, if_pos (by omega)]; exact hb1
  have hz2 : unfrz M1 n1 m2 0 = some ⟨needC, o⟩ := by rw [unfrz_at, if_pos (by omega)]; exact hz1
  generalize unfrz M1 n1 m2 = M2 at *
  try simp only [r7_0, r7_1, r7_2, r7_3, r7_4, r7_5, r7_6, r7_7, r7_8, r7_9, r7_10, r7_11, r7_12, r7_13, r7_14, r7_15, r7_16, r7_17, r7_18, r7_19, r7_20, r7_21, r7_22, r7_23, r7_24, c7, F7, hb2, rd_of hb2, go_sem, Int.reduceTMod, Int.reduceTDiv, Int.reduceDiv, Int.reduceMod, Int.reduceAdd, Int.reduceSub, Int.reduceMul, Int.reduceNeg, Int.reducePow, Int.reduceEq, ↓reduceIte, Nat.reduceEqDiff, Nat.reduceAdd, Nat.reduceMul, Nat.reduceLeDiff, Nat.reduceSub, Nat.reduceLT, Int.reduceToNat, Int.reduceLT, Int.reduceLE, reduceCtorEq]
  repeat' ((first | refine FK_split (fun h_ => ?_) (fun h_ => ?_) | refine GK_split (fun h_ => ?_) (fun h_ => ?_) | refine ite_both (fun h_ => ?_) (fun h_ => ?_)) <;> (try simp only [decide_eq_true_eq, decide_eq_false_iff_not, Bool.not_true, Bool.not_false, Bool.not_eq_true', Bool.not_eq_false', Bool.not_eq_eq_eq_not, Decidable.not_not] at h_) <;> (try simp only [r7_0, r7_1, r7_2, r7_3, r7_4, r7_5, r7_6, r7_7, r7_8, r7_9, r7_10, r7_11, r7_12, r7_13, r7_14, r7_15, r7_16, r7_17, r7_18, r7_19, r7_20, r7_21, r7_22, r7_23, r7_24, c7, F7, hb2, rd_of hb2, h_, go_sem, Int.reduceTMod, Int.reduceTDiv, Int.reduceDiv, Int.reduceMod, Int.reduceAdd, Int.reduceSub, Int.reduceMul, Int.reduceNeg, Int.reducePow, Int.reduceEq, ↓reduceIte, Nat.reduceEqDiff, Nat.reduceAdd, Nat.reduceMul, Nat.reduceLeDiff, Nat.reduceSub, Nat.reduceLT, Int.reduceToNat, Int.reduceLT, Int.reduceLE, reduceCtorEq]))
  refine RK_callk ?_
  refine (w_Insert i s hr2.frz hc (by rw [frz_at, hz2]; rfl) (by omega) (by omega)).mono ?_
  intro r3 m3 n3 h3
  obtain ⟨x3, rfl, hn3, hq3⟩ := h3.out (M := M2)
  rw [show max n2 n3 = n3 by omega]
  have hq2' := hq2.up (m' := m3) hn3
  have hx3 := hx2.up (m' := m3) hn3
  have hr3 := hr2.up (m' := m3) hn3
  have hb3 : unfrz M2 n2 m3 n = some ⟨zC c i k s p, true⟩ := by rw [unfrz_at, if_pos (by omega)]; exact hb2
  have hz3 : unfrz M2 n2 m3 0 = some ⟨needC, o⟩ := by rw [unfrz_at, if_pos (by omega)]; exact hz2
  generalize unfrz M2 n2 m3 = M3 at *
  try simp only [r7_0, r7_1, r7_2, r7_3, r7_4, r7_5, r7_6, r7_7, r7_8, r7_9, r7_10, r7_11, r7_12, r7_13, r7_14, r7_15, r7_16, r7_17, r7_18, r7_19, r7_20, r7_21, r7_22, r7_23, r7_24, c7, F7, hb3, rd_of hb3, go_sem, Int.reduceTMod, Int.reduceTDiv, Int.reduceDiv, Int.reduceMod, Int.reduceAdd, Int.reduceSub, Int.reduceMul, Int.reduceNeg, Int.reducePow, Int.reduceEq, ↓reduceIte, Nat.reduceEqDiff, Nat.reduceAdd, Nat.reduceMul, Nat.reduceLeDiff, Nat.reduceSub, Nat.reduceLT, Int.reduceToNat, Int.reduceLT, Int.reduceLE, reduceCtorEq]
  repeat' ((first | refine FK_split (fun h_ => ?_) (fun h_ => ?_) | refine GK_split (fun h_ => ?_) (fun h_ => ?_) | refine ite_both (fun h_ => ?_) (fun h_ => ?_)) <;> (try simp only [decide_eq_true_eq, decide_eq_false_iff_not, Bool.not_true, Bool.not_false, Bool.not_eq_true', Bool.not_eq_false', Bool.not_eq_eq_eq_not, Decidable.not_not] at h_) <;> (try simp only [r7_0, r7_1, r7_2, r7_3, r7_4, r7_5, r7_6, r7_7, r7_8, r7_9, r7_10, r7_11, r7_12, r7_13, r7_14, r7_15, r7_16, r7_17, r7_18, r7_19, r7_20, r7_21, r7_22, r7_23, r7_24, c7, F7, hb3, rd_of hb3, h_, go_sem, Int.reduceTMod, Int.reduceTDiv, Int.reduceDiv, Int.reduceMod, Int.reduceAdd, Int.reduceSub, Int.reduceMul, Int.reduceNeg, Int.reducePow, Int.reduceEq, ↓reduceIte, Nat.reduceEqDiff, Nat.reduceAdd, Nat.reduceMul, Nat.reduceLeDiff, Nat.reduceSub, Nat.reduceLT, Int.reduceToNat, Int.reduceLT, Int.reduceLE, reduceCtorEq]))
  refine RK_callk ?_
  refine (w_Delete i hr3.frz hc (by rw [frz_at, hz3]; rfl) (by omega) (by omega)).mono ?_
  intro r4 m4 n4 h4
  obtain ⟨x4, rfl, hn4, hq4⟩ := h4.out (M := M3)
  rw [show max n3 n4 = n4 by omega]
  have hq2'' := hq2'.up (m' := m4) hn4
  have hq3' := hq3.up (m' := m4) hn4
  have hx4 := hx3.up (m' := m4) hn4
  have hr4 := hr3.up (m' := m4) hn4
  have hb4 : unfrz M3 n3 m4 n = some ⟨zC c i k s p, true⟩ := by rw [unfrz_at, if_pos (by omega)]; exact hb3
  have hz4 : unfrz M3 n3 m4 0 = some ⟨needC, o⟩ := by rw [unfrz_at, if_pos (by omega)]; exact hz3
  generalize unfrz M3 n3 m4 = M4 at *
  have vS := v_same06 hr4.frz hx4.frz (by omega)
  by_cases hk : chkP l = 0
  case neg =>
    have e2 : pEr l i k p = chkP l := by
      have : atE l i = chkP l := if_neg hk
      unfold pEr; rw [this, if_neg hk]
    have e3 : insE l i s = chkP l := if_neg hk
    have e4 : delE l i = chkP l := by
      have : atE l i = chkP l := if_neg hk
      unfold delE; rw [this, if_neg hk]
    rw [e2] at hq2''
    rw [e3] at hq3'
    rw [e4] at hq4
    obtain rfl := (hq2''.resolve_right (fun h => hk h.1)).2
    obtain rfl := (hq3'.resolve_right (fun h => hk h.1)).2
    obtain rfl := (hq4.resolve_right (fun h => hk h.1)).2
    try simp only [r7_0, r7_1, r7_2, r7_3, r7_4, r7_5, r7_6, r7_7, r7_8, r7_9, r7_10, r7_11, r7_12, r7_13, r7_14, r7_15, r7_16, r7_17, r7_18, r7_19, r7_20, r7_21, r7_22, r7_23, r7_24, c7, F7, hb4, rd_of hb4, vS, hk, e2, e3, e4, a1, hz4, needC_flat, v_awake06, go_sem, Int.reduceTMod, Int.reduceTDiv, Int.reduceDiv, Int.reduceMod, Int.reduceAdd, Int.reduceSub, Int.reduceMul, Int.reduceNeg, Int.reducePow, Int.reduceEq, ↓reduceIte, Nat.reduceEqDiff, Nat.reduceAdd, Nat.reduceMul, Nat.reduceLeDiff, Nat.reduceSub, Nat.reduceLT, Int.reduceToNat, Int.reduceLT, Int.reduceLE, reduceCtorEq]
    repeat' ((first | refine FK_split (fun h_ => ?_) (fun h_ => ?_) | refine GK_split (fun h_ => ?_) (fun h_ => ?_) | refine ite_both (fun h_ => ?_) (fun h_ => ?_)) <;> (try simp only [decide_eq_true_eq, decide_eq_false_iff_not, Bool.not_true, Bool.not_false, Bool.not_eq_true', Bool.not_eq_false', Bool.not_eq_eq_eq_not, Decidable.not_not] at h_) <;> (try simp only [r7_0, r7_1, r7_2, r7_3, r7_4, r7_5, r7_6, r7_7, r7_8, r7_9, r7_10, r7_11, r7_12, r7_13, r7_14, r7_15, r7_16, r7_17, r7_18, r7_19, r7_20, r7_21, r7_22, r7_23, r7_24, c7, F7, hb4, rd_of hb4, vS, hk, e2, e3, e4, a1, hz4, needC_flat, v_awake06, h_, go_sem, Int.reduceTMod, Int.reduceTDiv, Int.reduceDiv, Int.reduceMod, Int.reduceAdd, Int.reduceSub, Int.reduceMul, Int.reduceNeg, Int.reducePow, Int.reduceEq, ↓reduceIte, Nat.reduceEqDiff, Nat.reduceAdd, Nat.reduceMul, Nat.reduceLeDiff, Nat.reduceSub, Nat.reduceLT, Int.reduceToNat, Int.reduceLT, Int.reduceLE, reduceCtorEq]))
  have out : (i < 0 ∨ (l.length : Int) < i) → pEr l i k p = 30 ∧ insE l i s = 30 ∧ delE l i = 30 := fun h => by
    have : atE l i = 30 := by unfold atE; rw [if_pos hk, if_pos (by omega)]
    refine ⟨by unfold pEr; rw [this, if_neg (by decide)], by unfold insE; rw [if_pos hk, if_pos h], by unfold delE; rw [this, if_neg (by decide)]⟩
  by_cases hi : i < 0 ∨ (l.length : Int) < i
  · obtain ⟨e2, e3, e4⟩ := out hi
    rw [e2] at hq2''
    rw [e3] at hq3'
    rw [e4] at hq4
    obtain rfl := (hq2''.resolve_right (fun h => by cases h.1)).2
    obtain rfl := (hq3'.resolve_right (fun h => by cases h.1)).2
    obtain rfl := (hq4.resolve_right (fun h => by cases h.1)).2
    have hlx := hx4.len
    by_cases h1 : i < 0
    · skip
      try simp only [r7_0, r7_1, r7_2, r7_3, r7_4, r7_5, r7_6, r7_7, r7_8, r7_9, r7_10, r7_11, r7_12, r7_13, r7_14, r7_15, r7_16, r7_17, r7_18, r7_19, r7_20, r7_21, r7_22, r7_23, r7_24, c7, F7, hb4, rd_of hb4, vS, hk, h1, e2, e3, e4, a1, hz4, needC_flat, v_awake06, go_sem, Int.reduceTMod, Int.reduceTDiv, Int.reduceDiv, Int.reduceMod, Int.reduceAdd, Int.reduceSub, Int.reduceMul, Int.reduceNeg, Int.reducePow, Int.reduceEq, ↓reduceIte, Nat.reduceEqDiff, Nat.reduceAdd, Nat.reduceMul, Nat.reduceLeDiff, Nat.reduceSub, Nat.reduceLT, Int.reduceToNat, Int.reduceLT, Int.reduceLE, reduceCtorEq]
      repeat' ((first | refine FK_split (fun h_ => ?_) (fun h_ => ?_) | refine GK_split (fun h_ => ?_) (fun h_ => ?_) | refine ite_both (fun h_ => ?_) (fun h_ => ?_)) <;> (try simp only [decide_eq_true_eq, decide_eq_false_iff_not, Bool.not_true, Bool.not_false, Bool.not_eq_true', Bool.not_eq_false', Bool.not_eq_eq_eq_not, Decidable.not_not] at h_) <;> (try simp only [r7_0, r7_1, r7_2, r7_3, r7_4, r7_5, r7_6, r7_7, r7_8, r7_9, r7_10, r7_11, r7_12, r7_13, r7_14, r7_15, r7_16, r7_17, r7_18, r7_19, r7_20, r7_21, r7_22, r7_23, r7_24, c7, F7, hb4, rd_of hb4, vS, hk, h1, e2, e3, e4, a1, hz4, needC_flat, v_awake06, h_, go_sem, Int.reduceTMod, Int.reduceTDiv, Int.reduceDiv, Int.reduceMod, Int.reduceAdd, Int.reduceSub, Int.reduceMul, Int.reduceNeg, Int.reducePow, Int.reduceEq, ↓reduceIte, Nat.reduceEqDiff, Nat.reduceAdd, Nat.reduceMul, Nat.reduceLeDiff, Nat.reduceSub, Nat.reduceLT, Int.reduceToNat, Int.reduceLT, Int.reduceLE, reduceCtorEq]))
    · have h2 : (l.length : Int) < i := hi.resolve_left h1
      try simp only [r7_0, r7_1, r7_2, r7_3, r7_4, r7_5, r7_6, r7_7, r7_8, r7_9, r7_10, r7_11, r7_12, r7_13, r7_14, r7_15, r7_16, r7_17, r7_18, r7_19, r7_20, r7_21, r7_22, r7_23, r7_24, c7, F7, hb4, rd_of hb4, vS, hk, h1, h2, hlx, e2, e3, e4, a1, hz4, needC_flat, v_awake06, go_sem, Int.reduceTMod, Int.reduceTDiv, Int.reduceDiv, Int.reduceMod, Int.reduceAdd, Int.reduceSub, Int.reduceMul, Int.reduceNeg, Int.reducePow, Int.reduceEq, ↓reduceIte, Nat.reduceEqDiff, Nat.reduceAdd, Nat.reduceMul, Nat.reduceLeDiff, Nat.reduceSub, Nat.reduceLT, Int.reduceToNat, Int.reduceLT, Int.reduceLE, reduceCtorEq]
      repeat' ((first | refine FK_split (fun h_ => ?_) (fun h_ => ?_) | refine GK_split (fun h_ => ?_) (fun h_ => ?_) | refine ite_both (fun h_ => ?_) (fun h_ => ?_)) <;> (try simp only [decide_eq_true_eq, decide_eq_false_iff_not, Bool.not_true, Bool.not_false, Bool.not_eq_true', Bool.not_eq_false', Bool.not_eq_eq_eq_not, Decidable.not_not] at h_) <;> (try simp only [r7_0, r7_1, r7_2, r7_3, r7_4, r7_5, r7_6, r7_7, r7_8, r7_9, r7_10, r7_11, r7_12, r7_13, r7_14, r7_15, r7_16, r7_17, r7_18, r7_19, r7_20, r7_21, r7_22, r7_23, r7_24, c7, F7, hb4, rd_of hb4, vS, hk, h1, h2, hlx, e2, e3, e4, a1, hz4, needC_flat, v_awake06, h_, go_sem, Int.reduceTMod, Int.reduceTDiv, Int.reduceDiv, Int.reduceMod, Int.reduceAdd, Int.reduceSub, Int.reduceMul, Int.reduceNeg, Int.reducePow, Int.reduceEq, ↓reduceIte, Nat.reduceEqDiff, Nat.reduceAdd, Nat.reduceMul, Nat.reduceLeDiff, Nat.reduceSub, Nat.reduceLT, Int.reduceToNat, Int.reduceLT, Int.reduceLE, reduceCtorEq]))
  have h1 : ¬ i < 0 := fun h => hi (Or.inl h)
  have h2 : ¬ (l.length : Int) < i := fun h => hi (Or.inr h)
  obtain ⟨a, rfl⟩ : ∃ a : Nat, i = a := ⟨i.toNat, by omega⟩
  have hal : a ≤ l.length := by omega
  have hlx := hx4.len
  have n1' := na_0 (show n < n4 by omega)
  have e3 : insE l a s = chkP (insL l a s) := by unfold insE; rw [if_pos hk, if_neg hi]
  try simp only [r7_0, r7_1, r7_2, r7_3, r7_4, r7_5, r7_6, r7_7, r7_8, r7_9, r7_10, r7_11, r7_12, r7_13, r7_14, r7_15, r7_16, r7_17, r7_18, r7_19, r7_20, r7_21, r7_22, r7_23, r7_24, c7, F7, hb4, rd_of hb4, vS, hk, h1, h2, hlx, go_sem, Int.reduceTMod, Int.reduceTDiv, Int.reduceDiv, Int.reduceMod, Int.reduceAdd, Int.reduceSub, Int.reduceMul, Int.reduceNeg, Int.reducePow, Int.reduceEq, ↓reduceIte, Nat.reduceEqDiff, Nat.reduceAdd, Nat.reduceMul, Nat.reduceLeDiff, Nat.reduceSub, Nat.reduceLT, Int.reduceToNat, Int.reduceLT, Int.reduceLE, reduceCtorEq]
  repeat' ((first | refine FK_split (fun h_ => ?_) (fun h_ => ?_) | refine GK_split (fun h_ => ?_) (fun h_ => ?_) | refine ite_both (fun h_ => ?_) (fun h_ => ?_)) <;> (try simp only [decide_eq_true_eq, decide_eq_false_iff_not, Bool.not_true, Bool.not_false, Bool.not_eq_true', Bool.not_eq_false', Bool.not_eq_eq_eq_not, Decidable.not_not] at h_) <;> (try simp only [r7_0, r7_1, r7_2, r7_3, r7_4, r7_5, r7_6, r7_7, r7_8, r7_9, r7_10, r7_11, r7_12, r7_13, r7_14, r7_15, r7_16, r7_17, r7_18, r7_19, r7_20, r7_21, r7_22, r7_23, r7_24, c7, F7, hb4, rd_of hb4, vS, hk, h1, h2, hlx, h_, go_sem, Int.reduceTMod, Int.reduceTDiv, Int.reduceDiv, Int.reduceMod, Int.reduceAdd, Int.reduceSub, Int.reduceMul, Int.reduceNeg, Int.reducePow, Int.reduceEq, ↓reduceIte, Nat.reduceEqDiff, Nat.reduceAdd, Nat.reduceMul, Nat.reduceLeDiff, Nat.reduceSub, Nat.reduceLT, Int.reduceToNat, Int.reduceLT, Int.reduceLE, reduceCtorEq]))
  refine RK_callk ?_
  refine (w_ref (l := [s]) (one_row (o := false) (b := n4) (by omega) (by rw [frz_at, upd_same]; rfl)) (by simp)).mono ?_
  rintro r5 m5 n5 ⟨ho5, hn5⟩
  rw [show max (n4 + 1) n5 = n5 by omega]
  have hf5 : ∀ id, id < n4 → unfrz (upd M4 n4 (some ⟨s.cs, true⟩)) (n4 + 1) m5 id = M4 id := fun id hid => by rw [unfrz_at, if_pos (by omega), upd_ne _ _ (by omega)]
  have hw5 : RSg (unfrz (upd M4 n4 (some ⟨s.cs, true⟩)) (n4 + 1) m5) n5 r5 [s] := (ho5.rl cs7).nw (fun j hj => ho5.sidge hj)
  generalize unfrz (upd M4 n4 (some ⟨s.cs, true⟩)) (n4 + 1) m5 = M5 at *
  have hx5 : RSg M5 n5 r1 l := hx4.keep (by omega) hf5
  have hil : (insL l a s).length = l.length + 1 := by simp [insL]; omega
  try simp only [r7_0, r7_1, r7_2, r7_3, r7_4, r7_5, r7_6, r7_7, r7_8, r7_9, r7_10, r7_11, r7_12, r7_13, r7_14, r7_15, r7_16, r7_17, r7_18, r7_19, r7_20, r7_21, r7_22, r7_23, r7_24, c7, F7, go_sem, Int.reduceTMod, Int.reduceTDiv, Int.reduceDiv, Int.reduceMod, Int.reduceAdd, Int.reduceSub, Int.reduceMul, Int.reduceNeg, Int.reducePow, Int.reduceEq, ↓reduceIte, Nat.reduceEqDiff, Nat.reduceAdd, Nat.reduceMul, Nat.reduceLeDiff, Nat.reduceSub, Nat.reduceLT, Int.reduceToNat, Int.reduceLT, Int.reduceLE, reduceCtorEq]
  repeat' ((first | refine FK_split (fun h_ => ?_) (fun h_ => ?_) | refine GK_split (fun h_ => ?_) (fun h_ => ?_) | refine ite_both (fun h_ => ?_) (fun h_ => ?_)) <;> (try simp only [decide_eq_true_eq, decide_eq_false_iff_not, Bool.not_true, Bool.not_false, Bool.not_eq_true', Bool.not_eq_false', Bool.not_eq_eq_eq_not, Decidable.not_not] at h_) <;> (try simp only [r7_0, r7_1, r7_2, r7_3, r7_4, r7_5, r7_6, r7_7, r7_8, r7_9, r7_10, r7_11, r7_12, r7_13, r7_14, r7_15, r7_16, r7_17, r7_18, r7_19, r7_20, r7_21, r7_22, r7_23, r7_24, c7, F7, h_, go_sem, Int.reduceTMod, Int.reduceTDiv, Int.reduceDiv, Int.reduceMod, Int.reduceAdd, Int.reduceSub, Int.reduceMul, Int.reduceNeg, Int.reducePow, Int.reduceEq, ↓reduceIte, Nat.reduceEqDiff, Nat.reduceAdd, Nat.reduceMul, Nat.reduceLeDiff, Nat.reduceSub, Nat.reduceLT, Int.reduceToNat, Int.reduceLT, Int.reduceLE, reduceCtorEq]))
  refine RK_callk ?_
  refine (w_With (a := a) (dr := 0) (xs := [s]) hx5.frz hw5.frz (by omega) (by simp only [List.length_cons, List.length_nil]; omega)).mono ?_
  rintro w6 m6 n6 ⟨ho6, hn6⟩
  rw [show l.take a ++ [s] ++ l.drop (a + 0) = insL l a s from rfl] at ho6
  rw [show max n5 n6 = n6 by omega]
  have hf6 : ∀ id, id < n4 → unfrz M5 n5 m6 id = M4 id := fun id hid => by rw [unfrz_at, if_pos (by omega)]; exact hf5 id hid
  have hw6 : RSg (unfrz M5 n5 m6) n6 w6 (insL l a s) := (ho6.rl cs7).nw (fun j hj => ho6.sidge hj)
  generalize unfrz M5 n5 m6 = M6 at *
  have vI := v_is ((hq3'.keep (show n4 ≤ n6 by omega) hf6).is) e3 hw6.frz (by omega)
  have hb6 : M6 n = some ⟨zC c a k s p, true⟩ := by rw [hf6 n (by omega)]; exact hb4
  have hz6 : M6 0 = some ⟨needC, o⟩ := by rw [hf6 0 (by omega)]; exact hz4
  have hx6 : RSg M6 n6 r1 l := hx4.keep (by omega) hf6
  by_cases hae : a = l.length
  · have at30 : atE l a = 30 := by unfold atE; rw [if_pos hk, if_pos (Or.inr (by omega))]
    have e2 : pEr l a k p = 30 := by unfold pEr; rw [at30, if_neg (by decide)]
    have e4 : delE l a = 30 := by unfold delE; rw [at30, if_neg (by decide)]
    have ha : ((a : Int) = (l.length : Int)) = True := eq_true (by omega)
    rw [e2] at hq2''
    rw [e4] at hq4
    obtain rfl := (hq2''.resolve_right (fun h => by cases h.1)).2
    obtain rfl := (hq4.resolve_right (fun h => by cases h.1)).2
    try simp only [r7_0, r7_1, r7_2, r7_3, r7_4, r7_5, r7_6, r7_7, r7_8, r7_9, r7_10, r7_11, r7_12, r7_13, r7_14, r7_15, r7_16, r7_17, r7_18, r7_19, r7_20, r7_21, r7_22, r7_23, r7_24, c7, F7, vI, hb6, rd_of hb6, ha, hlx, e2, e4, a1, hz6, needC_flat, v_awake06, go_sem, Int.reduceTMod, Int.reduceTDiv, Int.reduceDiv, Int.reduceMod, Int.reduceAdd, Int.reduceSub, Int.reduceMul, Int.reduceNeg, Int.reducePow, Int.reduceEq, ↓reduceIte, Nat.reduceEqDiff, Nat.reduceAdd, Nat.reduceMul, Nat.reduceLeDiff, Nat.reduceSub, Nat.reduceLT, Int.reduceToNat, Int.reduceLT, Int.reduceLE, reduceCtorEq]
    repeat' ((first | refine FK_split (fun h_ => ?_) (fun h_ => ?_) | refine GK_split (fun h_ => ?_) (fun h_ => ?_) | refine ite_both (fun h_ => ?_) (fun h_ => ?_)) <;> (try simp only [decide_eq_true_eq, decide_eq_false_iff_not, Bool.not_true, Bool.not_false, Bool.not_eq_true', Bool.not_eq_false', Bool.not_eq_eq_eq_not, Decidable.not_not] at h_) <;> (try simp only [r7_0, r7_1, r7_2, r7_3, r7_4, r7_5, r7_6, r7_7, r7_8, r7_9, r7_10, r7_11, r7_12, r7_13, r7_14, r7_15, r7_16, r7_17, r7_18, r7_19, r7_20, r7_21, r7_22, r7_23, r7_24, c7, F7, vI, hb6, rd_of hb6, ha, hlx, e2, e4, a1, hz6, needC_flat, v_awake06, h_, go_sem, Int.reduceTMod, Int.reduceTDiv, Int.reduceDiv, Int.reduceMod, Int.reduceAdd, Int.reduceSub, Int.reduceMul, Int.reduceNeg, Int.reducePow, Int.reduceEq, ↓reduceIte, Nat.reduceEqDiff, Nat.reduceAdd, Nat.reduceMul, Nat.reduceLeDiff, Nat.reduceSub, Nat.reduceLT, Int.reduceToNat, Int.reduceLT, Int.reduceLE, reduceCtorEq]))
  have ha : ((a : Int) = (l.length : Int)) = False := eq_false (by omega)
  have at0 : atE l a = 0 := by unfold atE; rw [if_pos hk, if_neg (by omega)]
  have e4 : delE l a = chkP (delL l a) := by unfold delE; rw [at0, if_pos rfl]
  try simp only [r7_0, r7_1, r7_2, r7_3, r7_4, r7_5, r7_6, r7_7, r7_8, r7_9, r7_10, r7_11, r7_12, r7_13, r7_14, r7_15, r7_16, r7_17, r7_18, r7_19, r7_20, r7_21, r7_22, r7_23, r7_24, c7, F7, vI, hb6, rd_of hb6, ha, hlx, go_sem, Int.reduceTMod, Int.reduceTDiv, Int.reduceDiv, Int.reduceMod, Int.reduceAdd, Int.reduceSub, Int.reduceMul, Int.reduceNeg, Int.reducePow, Int.reduceEq, ↓reduceIte, Nat.reduceEqDiff, Nat.reduceAdd, Nat.reduceMul, Nat.reduceLeDiff, Nat.reduceSub, Nat.reduceLT, Int.reduceToNat, Int.reduceLT, Int.reduceLE, reduceCtorEq]
  repeat' ((first | refine FK_split (fun h_ => ?_) (fun h_ => ?_) | refine GK_split (fun h_ => ?_) (fun h_ => ?_) | refine ite_both (fun h_ => ?_) (fun h_ => ?_)) <;> (try simp only [decide_eq_true_eq, decide_eq_false_iff_not, Bool.not_true, Bool.not_false, Bool.not_eq_true', Bool.not_eq_false', Bool.not_eq_eq_eq_not, Decidable.not_not] at h_) <;> (try simp only [r7_0, r7_1, r7_2, r7_3, r7_4, r7_5, r7_6, r7_7, r7_8, r7_9, r7_10, r7_11, r7_12, r7_13, r7_14, r7_15, r7_16, r7_17, r7_18, r7_19, r7_20, r7_21, r7_22, r7_23, r7_24, c7, F7, vI, hb6, rd_of hb6, ha, hlx, h_, go_sem, Int.reduceTMod, Int.reduceTDiv, Int.reduceDiv, Int.reduceMod, Int.reduceAdd, Int.reduceSub, Int.reduceMul, Int.reduceNeg, Int.reducePow, Int.reduceEq, ↓reduceIte, Nat.reduceEqDiff, Nat.reduceAdd, Nat.reduceMul, Nat.reduceLeDiff, Nat.reduceSub, Nat.reduceLT, Int.reduceToNat, Int.reduceLT, Int.reduceLE, reduceCtorEq]))
  refine RK_callk ?_
  refine (w_With (a := a) (dr := 1) (xs := []) hx6.frz RL.nil (by omega) (by simp only [List.length_nil]; omega)).mono ?_
  rintro w7 m7 n7 ⟨ho7, hn7⟩
  rw [show l.take a ++ [] ++ l.drop (a + 1) = delL l a by simp [delL]] at ho7
  rw [show max n6 n7 = n7 by omega]
  have hf7 : ∀ id, id < n4 → unfrz M6 n6 m7 id = M4 id := fun id hid => by rw [unfrz_at, if_pos (by omega)]; exact hf6 id hid
  have hw7 : RSg (unfrz M6 n6 m7) n7 w7 (delL l a) := (ho7.rl cs7).nw (fun j hj => ho7.sidge hj)
  generalize unfrz M6 n6 m7 = M7 at *
  have hdl : (delL l a).length < 1000000 := by simp [delL]; omega
  have vI2 := v_is ((hq4.keep (show n4 ≤ n7 by omega) hf7).is) e4 hw7.frz (by omega)
  have hb7 : M7 n = some ⟨zC c a k s p, true⟩ := by rw [hf7 n (by omega)]; exact hb4
  have hz7 : M7 0 = some ⟨needC, o⟩ := by rw [hf7 0 (by omega)]; exact hz4
  have hx7 : RSg M7 n7 r1 l := hx4.keep (by omega) hf7
  obtain ⟨sg, hs⟩ : ∃ sg, l[a]? = some sg := ⟨l[a], List.getElem?_eq_getElem (by omega)⟩
  have hgd : l.getD (a : Int).toNat zS = sg := by simp [List.getD_eq_getElem?_getD, hs]
  have hpE : pEr l a k p = if k < 0 ∨ need sg.k ≤ k then 30 else chkP (pL l a k p) := by unfold pEr; rw [if_pos at0, hgd]
  by_cases k1 : k < 0
  · have e2 : pEr l a k p = 30 := by rw [hpE, if_pos (Or.inl k1)]
    rw [e2] at hq2''
    obtain rfl := (hq2''.resolve_right (fun h => by cases h.1)).2
    try simp only [r7_0, r7_1, r7_2, r7_3, r7_4, r7_5, r7_6, r7_7, r7_8, r7_9, r7_10, r7_11, r7_12, r7_13, r7_14, r7_15, r7_16, r7_17, r7_18, r7_19, r7_20, r7_21, r7_22, r7_23, r7_24, c7, F7, vI2, hb7, rd_of hb7, k1, e2, a1, hz7, needC_flat, v_awake06, go_sem, Int.reduceTMod, Int.reduceTDiv, Int.reduceDiv, Int.reduceMod, Int.reduceAdd, Int.reduceSub, Int.reduceMul, Int.reduceNeg, Int.reducePow, Int.reduceEq, ↓reduceIte, Nat.reduceEqDiff, Nat.reduceAdd, Nat.reduceMul, Nat.reduceLeDiff, Nat.reduceSub, Nat.reduceLT, Int.reduceToNat, Int.reduceLT, Int.reduceLE, reduceCtorEq]
    repeat' ((first | refine FK_split (fun h_ => ?_) (fun h_ => ?_) | refine GK_split (fun h_ => ?_) (fun h_ => ?_) | refine ite_both (fun h_ => ?_) (fun h_ => ?_)) <;> (try simp only [decide_eq_true_eq, decide_eq_false_iff_not, Bool.not_true, Bool.not_false, Bool.not_eq_true', Bool.not_eq_false', Bool.not_eq_eq_eq_not, Decidable.not_not] at h_) <;> (try simp only [r7_0, r7_1, r7_2, r7_3, r7_4, r7_5, r7_6, r7_7, r7_8, r7_9, r7_10, r7_11, r7_12, r7_13, r7_14, r7_15, r7_16, r7_17, r7_18, r7_19, r7_20, r7_21, r7_22, r7_23, r7_24, c7, F7, vI2, hb7, rd_of hb7, k1, e2, a1, hz7, needC_flat, v_awake06, h_, go_sem, Int.reduceTMod, Int.reduceTDiv, Int.reduceDiv, Int.reduceMod, Int.reduceAdd, Int.reduceSub, Int.reduceMul, Int.reduceNeg, Int.reducePow, Int.reduceEq, ↓reduceIte, Nat.reduceEqDiff, Nat.reduceAdd, Nat.reduceMul, Nat.reduceLeDiff, Nat.reduceSub, Nat.reduceLT, Int.reduceToNat, Int.reduceLT, Int.reduceLE, reduceCtorEq]))
  obtain ⟨id, off, cap, hr1', hid, hrd⟩ := hx7.at cs7 hs
  obtain ⟨b, hbb1, hbb2⟩ := rd_cell hrd (a := 0) (c := I sg.k) rfl
  rw [Nat.add_zero] at hbb2
  have c2 : ((a : Int) < (l.length : Int)) = True := eq_true (by omega)
  have c3 : (0 ≤ (a : Int)) = True := eq_true (by omega)
  by_cases k2 : need sg.k ≤ k
  · have e2 : pEr l a k p = 30 := by rw [hpE, if_pos (Or.inr k2)]
    rw [e2] at hq2''
    obtain rfl := (hq2''.resolve_right (fun h => by cases h.1)).2
    try simp only [r7_0, r7_1, r7_2, r7_3, r7_4, r7_5, r7_6, r7_7, r7_8, r7_9, r7_10, r7_11, r7_12, r7_13, r7_14, r7_15, r7_16, r7_17, r7_18, r7_19, r7_20, r7_21, r7_22, r7_23, r7_24, c7, F7, vI2, hb7, rd_of hb7, k1, k2, hr1', c2, c3, hbb1, hbb2, v_rNeed, e2, a1, hz7, needC_flat, v_awake06, Int.toNat_natCast, go_sem, Int.reduceTMod, Int.reduceTDiv, Int.reduceDiv, Int.reduceMod, Int.reduceAdd, Int.reduceSub, Int.reduceMul, Int.reduceNeg, Int.reducePow, Int.reduceEq, ↓reduceIte, Nat.reduceEqDiff, Nat.reduceAdd, Nat.reduceMul, Nat.reduceLeDiff, Nat.reduceSub, Nat.reduceLT, Int.reduceToNat, Int.reduceLT, Int.reduceLE, reduceCtorEq]
    repeat' ((first | refine FK_split (fun h_ => ?_) (fun h_ => ?_) | refine GK_split (fun h_ => ?_) (fun h_ => ?_) | refine ite_both (fun h_ => ?_) (fun h_ => ?_)) <;> (try simp only [decide_eq_true_eq, decide_eq_false_iff_not, Bool.not_true, Bool.not_false, Bool.not_eq_true', Bool.not_eq_false', Bool.not_eq_eq_eq_not, Decidable.not_not] at h_) <;> (try simp only [r7_0, r7_1, r7_2, r7_3, r7_4, r7_5, r7_6, r7_7, r7_8, r7_9, r7_10, r7_11, r7_12, r7_13, r7_14, r7_15, r7_16, r7_17, r7_18, r7_19, r7_20, r7_21, r7_22, r7_23, r7_24, c7, F7, vI2, hb7, rd_of hb7, k1, k2, hr1', c2, c3, hbb1, hbb2, v_rNeed, e2, a1, hz7, needC_flat, v_awake06, Int.toNat_natCast, h_, go_sem, Int.reduceTMod, Int.reduceTDiv, Int.reduceDiv, Int.reduceMod, Int.reduceAdd, Int.reduceSub, Int.reduceMul, Int.reduceNeg, Int.reducePow, Int.reduceEq, ↓reduceIte, Nat.reduceEqDiff, Nat.reduceAdd, Nat.reduceMul, Nat.reduceLeDiff, Nat.reduceSub, Nat.reduceLT, Int.reduceToNat, Int.reduceLT, Int.reduceLE, reduceCtorEq]))
  have e2 : pEr l a k p = chkP (pL l a k p) := by rw [hpE, if_neg (by omega)]
  obtain ⟨j, rfl⟩ : ∃ j : Nat, k = j := ⟨k.toNat, by omega⟩
  have hnb := need_bd sg.k
  have hj : j < 3 := by omega
  have hpL : pL l a j p = l.set a (putP sg p j) := by unfold pL; rw [hgd]; rfl
  have hrow := putP_row hs hj p
  rw [← hpL] at hrow
  have hll : (pL l a j p).length = l.length := by rw [hpL, List.length_set]
  try simp only [r7_0, r7_1, r7_2, r7_3, r7_4, r7_5, r7_6, r7_7, r7_8, r7_9, r7_10, r7_11, r7_12, r7_13, r7_14, r7_15, r7_16, r7_17, r7_18, r7_19, r7_20, r7_21, r7_22, r7_23, r7_24, c7, F7, vI2, hb7, rd_of hb7, k1, k2, hr1', c2, c3, hbb1, hbb2, v_rNeed, Int.toNat_natCast, go_sem, Int.reduceTMod, Int.reduceTDiv, Int.reduceDiv, Int.reduceMod, Int.reduceAdd, Int.reduceSub, Int.reduceMul, Int.reduceNeg, Int.reducePow, Int.reduceEq, ↓reduceIte, Nat.reduceEqDiff, Nat.reduceAdd, Nat.reduceMul, Nat.reduceLeDiff, Nat.reduceSub, Nat.reduceLT, Int.reduceToNat, Int.reduceLT, Int.reduceLE, reduceCtorEq]
  repeat' ((first | refine FK_split (fun h_ => ?_) (fun h_ => ?_) | refine GK_split (fun h_ => ?_) (fun h_ => ?_) | refine ite_both (fun h_ => ?_) (fun h_ => ?_)) <;> (try simp only [decide_eq_true_eq, decide_eq_false_iff_not, Bool.not_true, Bool.not_false, Bool.not_eq_true', Bool.not_eq_false', Bool.not_eq_eq_eq_not, Decidable.not_not] at h_) <;> (try simp only [r7_0, r7_1, r7_2, r7_3, r7_4, r7_5, r7_6, r7_7, r7_8, r7_9, r7_10, r7_11, r7_12, r7_13, r7_14, r7_15, r7_16, r7_17, r7_18, r7_19, r7_20, r7_21, r7_22, r7_23, r7_24, c7, F7, vI2, hb7, rd_of hb7, k1, k2, hr1', c2, c3, hbb1, hbb2, v_rNeed, Int.toNat_natCast, h_, go_sem, Int.reduceTMod, Int.reduceTDiv, Int.reduceDiv, Int.reduceMod, Int.reduceAdd, Int.reduceSub, Int.reduceMul, Int.reduceNeg, Int.reducePow, Int.reduceEq, ↓reduceIte, Nat.reduceEqDiff, Nat.reduceAdd, Nat.reduceMul, Nat.reduceLeDiff, Nat.reduceSub, Nat.reduceLT, Int.reduceToNat, Int.reduceLT, Int.reduceLE, reduceCtorEq]))
  refine RK_callk ?_
  rw [hr1'] at hx7
  refine (w_With (a := 0) (dr := 0) (xs := []) hx7.frz RL.nil (by omega) (by simp only [List.length_nil]; omega)).mono ?_
  rintro w8 m8 n8 ⟨ho8, hn8⟩
  rw [show l.take 0 ++ [] ++ l.drop (0 + 0) = l by simp] at ho8
  rw [show max n7 n8 = n8 by omega]
  have hf8 : ∀ id, id < n4 → unfrz M7 n7 m8 id = M4 id := fun id hid => by rw [unfrz_at, if_pos (by omega)]; exact hf7 id hid
  have hne : l ≠ [] := fun h => by rw [h] at hs; simp at hs
  obtain ⟨cb, rfl, hcb1, hcb2, hcb3⟩ := ho8.resolve_left (fun h => hne h.2)
  have tb : unfrz M7 n7 m8 cb = some ⟨l.flatMap Sg.cs, true⟩ := by rw [unfrz_at, if_neg (by omega)]; exact hcb3
  generalize unfrz M7 n7 m8 = M8 at *
  have hb8 : M8 n = some ⟨zC c a j s p, true⟩ := by rw [hf8 n (by omega)]; exact hb4
  have hCl : (l.flatMap Sg.cs).length = l.length * 7 := flatMap_len Sg.cs 7 cs7 l
  have hle : (a * 7 + 1 + j * 2 + 2 ≤ (l.flatMap Sg.cs).length) = True := eq_true (by rw [hCl]; omega)
  have d1 : (0 ≤ (j : Int)) = True := eq_true (by omega)
  have d2 : ((j : Int) < 3) = True := eq_true (by omega)
  have d3 : ((j : Int) < ((3 : Nat) : Int)) = True := eq_true (by omega)
  have hf9 : ∀ id, id < n4 → (upd M8 cb (some ⟨(pL l a j p).flatMap Sg.cs, true⟩)) id = M4 id := fun id hid => by rw [upd_ne _ _ (by omega)]; exact hf8 id hid
  have hrow2 : RSg (upd M8 cb (some ⟨(pL l a j p).flatMap Sg.cs, true⟩)) n8 (.one (.sl cb 0 l.length none 7)) (pL l a j p) := by
    refine Or.inr ⟨cb, 0, none, by rw [hll], hcb2, ?_⟩
    have h7 := flatMap_len Sg.cs 7 cs7 (pL l a j p)
    rw [rd_of (upd_same _ _ _)]
    unfold rdB
    rw [if_pos (by rw [h7]; omega), List.drop_zero, ← h7, List.take_length]
  have hz9 : (upd M8 cb (some ⟨(pL l a j p).flatMap Sg.cs, true⟩)) 0 = some ⟨needC, o⟩ := by rw [hf9 0 (by omega)]; exact hz4
  have vI3 := v_is ((hq2''.keep (show n4 ≤ n8 by omega) hf9).is) e2 hrow2.frz (by omega)
  have hset : ((l.flatMap Sg.cs).set (a * 7 + 1 + j * 2) (I p.x)).set (a * 7 + 1 + (j * 2 + 1)) (I p.y) = (pL l a j p).flatMap Sg.cs := hrow
  have hc0 : (0 = cb) = False := eq_false (by omega)
  have hz8 : M8 0 = some ⟨needC, o⟩ := by rw [hf8 0 (by omega)]; exact hz4
  generalize hC : l.flatMap Sg.cs = C at *
  try simp only [r7_0, r7_1, r7_2, r7_3, r7_4, r7_5, r7_6, r7_7, r7_8, r7_9, r7_10, r7_11, r7_12, r7_13, r7_14, r7_15, r7_16, r7_17, r7_18, r7_19, r7_20, r7_21, r7_22, r7_23, r7_24, c7, F7, hb8, rd_of hb8, c2, c3, d1, d2, d3, tb, hle, hset, vI3, hc0, hz8, needC_flat, v_awake06, Int.toNat_natCast, go_sem, Int.reduceTMod, Int.reduceTDiv, Int.reduceDiv, Int.reduceMod, Int.reduceAdd, Int.reduceSub, Int.reduceMul, Int.reduceNeg, Int.reducePow, Int.reduceEq, ↓reduceIte, Nat.reduceEqDiff, Nat.reduceAdd, Nat.reduceMul, Nat.reduceLeDiff, Nat.reduceSub, Nat.reduceLT, Int.reduceToNat, Int.reduceLT, Int.reduceLE, reduceCtorEq]
  repeat' ((first | refine FK_split (fun h_ => ?_) (fun h_ => ?_) | refine GK_split (fun h_ => ?_) (fun h_ => ?_) | refine ite_both (fun h_ => ?_) (fun h_ => ?_)) <;> (try simp only [decide_eq_true_eq, decide_eq_false_iff_not, Bool.not_true, Bool.not_false, Bool.not_eq_true', Bool.not_eq_false', Bool.not_eq_eq_eq_not, Decidable.not_not] at h_) <;> (try simp only [r7_0, r7_1, r7_2, r7_3, r7_4, r7_5, r7_6, r7_7, r7_8, r7_9, r7_10, r7_11, r7_12, r7_13, r7_14, r7_15, r7_16, r7_17, r7_18, r7_19, r7_20, r7_21, r7_22, r7_23, r7_24, c7, F7, hb8, rd_of hb8, c2, c3, d1, d2, d3, tb, hle, hset, vI3, hc0, hz8, needC_flat, v_awake06, Int.toNat_natCast, h_, go_sem, Int.reduceTMod, Int.reduceTDiv, Int.reduceDiv, Int.reduceMod, Int.reduceAdd, Int.reduceSub, Int.reduceMul, Int.reduceNeg, Int.reducePow, Int.reduceEq, ↓reduceIte, Nat.reduceEqDiff, Nat.reduceAdd, Nat.reduceMul, Nat.reduceLeDiff, Nat.reduceSub, Nat.reduceLT, Int.reduceToNat, Int.reduceLT, Int.reduceLE, reduceCtorEq]))
end Go.Proofs.YtpleidpbapgmiaaDoor.Sy
