/- path.Flat walked. Conditions: those that each theorem names. -/
import Derived.Test.YtpleidpbapgmiaaDoorPfC
namespace Go.Proofs.YtpleidpbapgmiaaDoor.Sy
open Go Go.Proofs
set_option linter.unusedSimpArgs false
set_option linter.unusedVariables false
set_option maxRecDepth 20000
attribute [local go_sem] XK_seq XK_block XK_skip XK_exit XK_ret XK_cond XK_reg XK_dreg XK_ureg KN_seq KN_blk KN_lp KN_chk KN_chku KN_top KN_fin KX_seq KX_lp KX_blk KX_chk KX_top KR_seq KR_blk KR_lp KR_chk KR_top KR_fin FK_true FK_false RK_nil RK_mv RK_pick RK_alloc RK_box RK_build RK_bslice RK_load1 RK_loadA RK_store RK_nilchk RK_bin RK_beq RK_eqv RK_eqnil RK_un RK_conv RK_mkfn RK_mkslice RK_slS RK_slA RK_fadr RK_fld RK_iadrA RK_iadrS RK_idxA RK_ext RK_lenC RK_cap RK_app RK_appz RK_cpy RK_mn RK_mx RK_len RK_carry RK_clr carryR um0 um1 ThenK_some RK_guard GK_tt GK_ff GK_tf GK_ft GK_none QK_some RK_callQ RK_callZ RK_callT TK_some VK_clo RK_callV
  evalOp evO evOs upd_at unfrz_at putE_some putE_none boolOf_b boolOf_tup Option.map_some evRes pack_one pack_two pack_three pack_none List.getD_cons_zero List.getD_cons_succ getD_nil
  Option.some.injEq exists_eq_left' Reg.cs? fillC setL List.set_cons_zero List.set_cons_succ List.length_cons List.length_nil rd_upd rd_updn rdB wr List.drop_zero List.drop_succ_cons List.take_succ_cons List.take_zero List.getElem?_cons_zero List.getElem?_cons_succ
  ix Int.toNat_zero lenO_sl lenO_nil nadd na_eq na_eq' na_lt na_ee na_ll na_ne na_ne' na_tt
attribute [local go_sem] Reg.flat_one Reg.flat_agg Reg.flat_tup flats_nil flats_cons Cell.flat_sc Cell.flat_ptr List.all_cons List.all_nil disOk safeOk safeR decide_eq_true_eq decide_eq_false_iff_not
  List.map_cons List.map_nil List.cons_append List.nil_append List.append_nil evalOp.capsOf Bool.false_bne Bool.bne_false Bool.true_bne Bool.bne_true bne_self_eq_false beq_self_eq_true Bool.not_not Bool.false_and Bool.and_false Bool.true_or Bool.or_true beq_iff_eq eqCells
  Bool.true_beq Bool.false_beq Bool.not_eq_true' Bool.not_eq_eq_eq_not Bool.not_eq_false' and_false false_and frz_at idOf noId Option.isSome_some Bool.and_eq_true
attribute [local go_sem] wr_eq bV_add bV_sub bV_mul bV_eql bV_neq bV_lss bV_leq bV_gtr bV_geq bV_quo bV_rem bV_shr bV_shl uV_not uV_neg wrapU bits_and bits_or bits_xor IntKind.bits Nat.min_eq_left Nat.min_eq_right Nat.min_self
attribute [local go_sem] bne_iff_ne Int.cast_ofNat_Int Nat.zero_add Nat.add_zero and_self and_true true_and ne_eq not_false_eq_true not_true_eq_false decide_true decide_false Bool.false_eq_true Bool.not_true Bool.not_false Bool.true_and Bool.and_true Bool.or_false Bool.false_or Bool.and_self

set_option maxHeartbeats 4000000 in
theorem flat_round {B u dx bx d : Nat} {M : Mem} {oc : Cell} {o : List Sb} {fr : Pt} {sg : Sg} {ow : Bool} {e : Nat → Reg} {Q : Ex → St → Prop}
    (hd : d ≤ 6) (hk1 : 1 ≤ sg.k) (hk5 : sg.k ≤ 5) (hin : (sg.pts.take (need sg.k).toNat).all inP = true) (hopen : sg.k ≠ 1 → o ≠ []) (hfr : sg.k ≠ 1 → inP fr = true) (hlen : o.length < 1000000) (hL : ∀ x ∈ o, x.L.length + 64 ≤ 4294967296)
    (hO : OSc u B M u oc o) (hB : B ≤ u) (hsg : M u = some ⟨sg.cs, true⟩) (hdx : M dx = some ⟨[I d], true⟩) (hdB : dx < B) (hbx : M bx = some ⟨[oc], true⟩) (hbB : bx < B) (hdb : dx ≠ bx) (hz : M 0 = some ⟨needC, ow⟩) (hb0 : 0 < bx)
    (q3 : e 3 = .one (.ptr dx 0)) (q7 : e 7 = .one (.ptr bx 0)) (q26 : e 26 = .agg fr.cs) (q27 : e 27 = .agg sg.cs)
    (next : ∀ e' M' N' oc', u + 1 ≤ N' → M' bx = some ⟨[oc'], true⟩ → OSc u B M' N' oc' (stepF d fr sg o) → (∀ j, j < B → j ≠ bx → M' j = M j) → M' u = M u → Q .n ⟨e', M', N'⟩) :
    XK TA (.seq wa10 wb10) ⟨e, M, u + 1⟩ (.top Q) := by
  have rest : ∀ (e2 : Nat → Reg) (M2 : Mem) (N2 n2 : Nat) (oc2 : Cell) (o1 : List Sb) (x : Sb), OSc u B M2 n2 oc2 (o1 ++ [x]) → n2 ≤ N2 → u + 3 ≤ N2 → M2 bx = some ⟨[oc2], true⟩ → e2 3 = .one (.ptr dx 0) → e2 7 = .one (.ptr bx 0) → e2 8 = .one (.ptr (u + 1) 0) → e2 9 = .one (.ptr (u + 2) 0) →
      (∀ j, j < B → j ≠ bx → M2 j = M j) → M2 u = M u → M2 (u + 1) = some ⟨fr.cs, true⟩ → M2 (u + 2) = some ⟨sg.cs, true⟩ → x.L.length + 64 ≤ 4294967296 → o1.length < 1000000 → (if sg.k = 1 then o1 ++ [⟨x.L ++ [sg.a], x.c⟩] else o1 ++ [subF d fr sg x]) = stepF d fr sg o →
      RK TA r10_12 e2 M2 N2 (.seq (.seq (.reg r10_13) (.block 2 (.seq (.reg r10_15) (.cond (.t 54) (.reg r10_16) (.seq (.seq (.reg r10_17) (.cond (.t 59) .skip (.reg r10_18))) (.cond (.t 59) (.seq (.preg 2 35 [(.t 9)] [(3, 64)] r10_19) (.reg r10_20)) (.reg r10_14))))))) (.blk 1 (.top Q))) := by
    intro e2 M2 N2 n2 oc2 o1 x hO2 hn2 hN2 hbx2 p3 p7 p8 p9 hf2 hu2 hfr2 hsb2 hxL ho1 hfin
    obtain ⟨id, cl, R, rfl, i1, i2, hR, hid, hcl, hne, hidu, hclu, reb⟩ := hO2.last
    have w1 : IntKind.i64.wrap (((o1.length + 1 : Nat) : Int) - 1) = (o1.length : Int) := (wr_eq (by omega) (by omega)).trans (by omega)
    have c2 : ((o1.length : Int) < ((o1.length + 1 : Nat) : Int)) = True := eq_true (by omega)
    have c3 : (0 ≤ (o1.length : Int)) = True := eq_true (by omega)
    have hz2 : M2 0 = some ⟨needC, ow⟩ := by rw [hf2 0 (by omega) (by omega)]; exact hz
    have hdx2 : M2 dx = some ⟨[I d], true⟩ := by rw [hf2 dx hdB hdb]; exact hdx
    have hclN : ∀ j, sid (.one cl) = some j → B ≤ j ∧ j < n2 := fun j hj => hcl.lt hj
    -- what is left when points have come
    have done : ∀ (e' : Nat → Reg) (M' : Mem) (N' : Nat) (c' : Cell) (L' : List Pt), N2 ≤ N' → OPd B M' N' c' L' → (∀ j, sid (.one c') = some j → N2 ≤ j) → M' id = some ⟨R ++ [c', .sc (.bool x.c)], true⟩ → (∀ j, j < N2 → j ≠ id → sid (.one cl) ≠ some j → M' j = M2 j) → o1 ++ [⟨L', x.c⟩] = stepF d fr sg o → Q .n ⟨e', M', N'⟩ := by
      intro e' M' N' c' L' h1 h2 h3 h4 h5 h6
      refine next e' M' N' (.sl id 0 (o1.length + 1) none 2) (by omega) ?_ ?_ (fun j hj hjb => ?_) ?_
      · rw [h5 bx (by omega) (by omega) (fun h => by have := hclN _ h; omega)]; exact hbx2
      · rw [← h6]
        exact reb M' N' c' ⟨L', x.c⟩ (by omega) h4 (fun j k1 k2 k3 k4 k5 => h5 j (by omega) k3 (fun h => by
          rcases k5 with k5 | k5
          · exact k5 h
          · rw [← k5] at h; have := h3 j h; omega)) h2 (Or.inr fun j hj => by have := h3 j hj; omega)
      · rw [h5 j (by omega) (by omega) (fun h => by have := hclN _ h; omega)]; exact hf2 j hj hjb
      · rw [h5 u (by omega) (Ne.symm hidu) hclu]; exact hu2
    have k5' : sg.k = 1 ∨ sg.k = 2 ∨ sg.k = 3 ∨ sg.k = 4 ∨ sg.k = 5 := by omega
    rcases k5' with hk | hk | hk | hk | hk
    · skip
      try simp only [r10_12, r10_13, r10_15, r10_17, r10_18, p7, p9, hbx2, hsb2, w1, c2, c3, hk, Int.toNat_natCast, go_sem, Int.reduceTMod, Int.reduceTDiv, Int.reduceDiv, Int.reduceMod, Int.reduceAdd, Int.reduceSub, Int.reduceMul, Int.reduceNeg, Int.reducePow, Int.reduceEq, ↓reduceIte, Nat.reduceEqDiff, Nat.reduceAdd, Nat.reduceMul, Nat.reduceLeDiff, Nat.reduceSub, Nat.reduceLT, Int.reduceToNat, Int.reduceLT, Int.reduceLE, reduceCtorEq]
      repeat' ((first | refine FK_split (fun h_ => ?_) (fun h_ => ?_) | refine GK_split (fun h_ => ?_) (fun h_ => ?_) | refine ite_both (fun h_ => ?_) (fun h_ => ?_)) <;> (try simp only [decide_eq_true_eq, decide_eq_false_iff_not, Bool.not_true, Bool.not_false, Bool.not_eq_true', Bool.not_eq_false', Bool.not_eq_eq_eq_not, Decidable.not_not] at h_) <;> (try simp only [r10_12, r10_13, r10_15, r10_17, r10_18, p7, p9, hbx2, hsb2, w1, c2, c3, hk, Int.toNat_natCast, h_, go_sem, Int.reduceTMod, Int.reduceTDiv, Int.reduceDiv, Int.reduceMod, Int.reduceAdd, Int.reduceSub, Int.reduceMul, Int.reduceNeg, Int.reducePow, Int.reduceEq, ↓reduceIte, Nat.reduceEqDiff, Nat.reduceAdd, Nat.reduceMul, Nat.reduceLeDiff, Nat.reduceSub, Nat.reduceLT, Int.reduceToNat, Int.reduceLT, Int.reduceLE, reduceCtorEq]))
      refine flat_r14 (sg := sg) (L := x.L) (n1 := n2) (sb := u + 2) (id := id) (cl := cl) (R := R) (bb := x.c) (B := B) hid hR hcl hn2 (by omega) hne hsb2 (by omega) ?_ ?_ (by omega) (by omega) ?_
      · simp only [p9, go_sem, Int.reduceTMod, Int.reduceTDiv, Int.reduceDiv, Int.reduceMod, Int.reduceAdd, Int.reduceSub, Int.reduceMul, Int.reduceNeg, Int.reducePow, Int.reduceEq, ↓reduceIte, Nat.reduceEqDiff, Nat.reduceAdd, Nat.reduceMul, Nat.reduceLeDiff, Nat.reduceSub, Nat.reduceLT, Int.reduceToNat, Int.reduceLT, Int.reduceLE, reduceCtorEq]
      · simp only [go_sem, Int.reduceTMod, Int.reduceTDiv, Int.reduceDiv, Int.reduceMod, Int.reduceAdd, Int.reduceSub, Int.reduceMul, Int.reduceNeg, Int.reducePow, Int.reduceEq, ↓reduceIte, Nat.reduceEqDiff, Nat.reduceAdd, Nat.reduceMul, Nat.reduceLeDiff, Nat.reduceSub, Nat.reduceLT, Int.reduceToNat, Int.reduceLT, Int.reduceLE, reduceCtorEq]
      · intro e' M' N' c' h1 h2 h3 h4 h5 _ _
        refine done e' M' N' c' _ h1 h2 h3 h4 h5 ?_
        rw [← hfin, if_pos hk]
    · skip
      try simp only [r10_12, r10_13, r10_15, r10_17, r10_18, p7, p9, hbx2, hsb2, w1, c2, c3, hk, Int.toNat_natCast, go_sem, Int.reduceTMod, Int.reduceTDiv, Int.reduceDiv, Int.reduceMod, Int.reduceAdd, Int.reduceSub, Int.reduceMul, Int.reduceNeg, Int.reducePow, Int.reduceEq, ↓reduceIte, Nat.reduceEqDiff, Nat.reduceAdd, Nat.reduceMul, Nat.reduceLeDiff, Nat.reduceSub, Nat.reduceLT, Int.reduceToNat, Int.reduceLT, Int.reduceLE, reduceCtorEq]
      repeat' ((first | refine FK_split (fun h_ => ?_) (fun h_ => ?_) | refine GK_split (fun h_ => ?_) (fun h_ => ?_) | refine ite_both (fun h_ => ?_) (fun h_ => ?_)) <;> (try simp only [decide_eq_true_eq, decide_eq_false_iff_not, Bool.not_true, Bool.not_false, Bool.not_eq_true', Bool.not_eq_false', Bool.not_eq_eq_eq_not, Decidable.not_not] at h_) <;> (try simp only [r10_12, r10_13, r10_15, r10_17, r10_18, p7, p9, hbx2, hsb2, w1, c2, c3, hk, Int.toNat_natCast, h_, go_sem, Int.reduceTMod, Int.reduceTDiv, Int.reduceDiv, Int.reduceMod, Int.reduceAdd, Int.reduceSub, Int.reduceMul, Int.reduceNeg, Int.reducePow, Int.reduceEq, ↓reduceIte, Nat.reduceEqDiff, Nat.reduceAdd, Nat.reduceMul, Nat.reduceLeDiff, Nat.reduceSub, Nat.reduceLT, Int.reduceToNat, Int.reduceLT, Int.reduceLE, reduceCtorEq]))
      refine flat_r14 (sg := sg) (L := x.L) (n1 := n2) (sb := u + 2) (id := id) (cl := cl) (R := R) (bb := x.c) (B := B) hid hR hcl hn2 (by omega) hne hsb2 (by omega) ?_ ?_ (by omega) (by omega) ?_
      · simp only [p9, go_sem, Int.reduceTMod, Int.reduceTDiv, Int.reduceDiv, Int.reduceMod, Int.reduceAdd, Int.reduceSub, Int.reduceMul, Int.reduceNeg, Int.reducePow, Int.reduceEq, ↓reduceIte, Nat.reduceEqDiff, Nat.reduceAdd, Nat.reduceMul, Nat.reduceLeDiff, Nat.reduceSub, Nat.reduceLT, Int.reduceToNat, Int.reduceLT, Int.reduceLE, reduceCtorEq]
      · simp only [go_sem, Int.reduceTMod, Int.reduceTDiv, Int.reduceDiv, Int.reduceMod, Int.reduceAdd, Int.reduceSub, Int.reduceMul, Int.reduceNeg, Int.reducePow, Int.reduceEq, ↓reduceIte, Nat.reduceEqDiff, Nat.reduceAdd, Nat.reduceMul, Nat.reduceLeDiff, Nat.reduceSub, Nat.reduceLT, Int.reduceToNat, Int.reduceLT, Int.reduceLE, reduceCtorEq]
      · intro e' M' N' c' h1 h2 h3 h4 h5 _ _
        refine done e' M' N' c' _ h1 h2 h3 h4 h5 ?_
        rw [← hfin, if_neg (by omega)]
        simp only [subF]
        rw [if_neg (by omega), if_pos hk]
    · skip
      try simp only [r10_12, r10_13, r10_15, r10_17, r10_18, p7, p9, hbx2, hsb2, w1, c2, c3, hk, Int.toNat_natCast, go_sem, Int.reduceTMod, Int.reduceTDiv, Int.reduceDiv, Int.reduceMod, Int.reduceAdd, Int.reduceSub, Int.reduceMul, Int.reduceNeg, Int.reducePow, Int.reduceEq, ↓reduceIte, Nat.reduceEqDiff, Nat.reduceAdd, Nat.reduceMul, Nat.reduceLeDiff, Nat.reduceSub, Nat.reduceLT, Int.reduceToNat, Int.reduceLT, Int.reduceLE, reduceCtorEq]
      repeat' ((first | refine FK_split (fun h_ => ?_) (fun h_ => ?_) | refine GK_split (fun h_ => ?_) (fun h_ => ?_) | refine ite_both (fun h_ => ?_) (fun h_ => ?_)) <;> (try simp only [decide_eq_true_eq, decide_eq_false_iff_not, Bool.not_true, Bool.not_false, Bool.not_eq_true', Bool.not_eq_false', Bool.not_eq_eq_eq_not, Decidable.not_not] at h_) <;> (try simp only [r10_12, r10_13, r10_15, r10_17, r10_18, p7, p9, hbx2, hsb2, w1, c2, c3, hk, Int.toNat_natCast, h_, go_sem, Int.reduceTMod, Int.reduceTDiv, Int.reduceDiv, Int.reduceMod, Int.reduceAdd, Int.reduceSub, Int.reduceMul, Int.reduceNeg, Int.reducePow, Int.reduceEq, ↓reduceIte, Nat.reduceEqDiff, Nat.reduceAdd, Nat.reduceMul, Nat.reduceLeDiff, Nat.reduceSub, Nat.reduceLT, Int.reduceToNat, Int.reduceLT, Int.reduceLE, reduceCtorEq]))
      refine flat_r19 (sg := sg) (L := x.L) (n1 := n2) (sb := u + 2) (fb := u + 1) (dx := dx) (d := d) (fr := fr) (ow := ow) (id := id) (cl := cl) (R := R) (bb := x.c) (B := B) (by omega) hd (hfr (by omega)) hin hz2 hdx2 (by omega) hfr2 ?_ ?_ hid hR hcl hn2 (by omega) hne hsb2 (by omega) ?_ ?_ (by omega) (by omega) (by omega) ?_
      · simp only [p3, go_sem, Int.reduceTMod, Int.reduceTDiv, Int.reduceDiv, Int.reduceMod, Int.reduceAdd, Int.reduceSub, Int.reduceMul, Int.reduceNeg, Int.reducePow, Int.reduceEq, ↓reduceIte, Nat.reduceEqDiff, Nat.reduceAdd, Nat.reduceMul, Nat.reduceLeDiff, Nat.reduceSub, Nat.reduceLT, Int.reduceToNat, Int.reduceLT, Int.reduceLE, reduceCtorEq]
      · simp only [p8, go_sem, Int.reduceTMod, Int.reduceTDiv, Int.reduceDiv, Int.reduceMod, Int.reduceAdd, Int.reduceSub, Int.reduceMul, Int.reduceNeg, Int.reducePow, Int.reduceEq, ↓reduceIte, Nat.reduceEqDiff, Nat.reduceAdd, Nat.reduceMul, Nat.reduceLeDiff, Nat.reduceSub, Nat.reduceLT, Int.reduceToNat, Int.reduceLT, Int.reduceLE, reduceCtorEq]
      · simp only [p9, go_sem, Int.reduceTMod, Int.reduceTDiv, Int.reduceDiv, Int.reduceMod, Int.reduceAdd, Int.reduceSub, Int.reduceMul, Int.reduceNeg, Int.reducePow, Int.reduceEq, ↓reduceIte, Nat.reduceEqDiff, Nat.reduceAdd, Nat.reduceMul, Nat.reduceLeDiff, Nat.reduceSub, Nat.reduceLT, Int.reduceToNat, Int.reduceLT, Int.reduceLE, reduceCtorEq]
      · simp only [go_sem, Int.reduceTMod, Int.reduceTDiv, Int.reduceDiv, Int.reduceMod, Int.reduceAdd, Int.reduceSub, Int.reduceMul, Int.reduceNeg, Int.reducePow, Int.reduceEq, ↓reduceIte, Nat.reduceEqDiff, Nat.reduceAdd, Nat.reduceMul, Nat.reduceLeDiff, Nat.reduceSub, Nat.reduceLT, Int.reduceToNat, Int.reduceLT, Int.reduceLE, reduceCtorEq]
      · intro e' M' N' c' h1 h2 h3 h4 h5 _ _
        refine done e' M' N' c' _ h1 h2 h3 h4 h5 ?_
        rw [← hfin, if_neg (by omega)]
        simp only [subF]
        rw [if_neg (by omega), if_neg (by omega)]
    · skip
      try simp only [r10_12, r10_13, r10_15, r10_17, r10_18, p7, p9, hbx2, hsb2, w1, c2, c3, hk, Int.toNat_natCast, go_sem, Int.reduceTMod, Int.reduceTDiv, Int.reduceDiv, Int.reduceMod, Int.reduceAdd, Int.reduceSub, Int.reduceMul, Int.reduceNeg, Int.reducePow, Int.reduceEq, ↓reduceIte, Nat.reduceEqDiff, Nat.reduceAdd, Nat.reduceMul, Nat.reduceLeDiff, Nat.reduceSub, Nat.reduceLT, Int.reduceToNat, Int.reduceLT, Int.reduceLE, reduceCtorEq]
      repeat' ((first | refine FK_split (fun h_ => ?_) (fun h_ => ?_) | refine GK_split (fun h_ => ?_) (fun h_ => ?_) | refine ite_both (fun h_ => ?_) (fun h_ => ?_)) <;> (try simp only [decide_eq_true_eq, decide_eq_false_iff_not, Bool.not_true, Bool.not_false, Bool.not_eq_true', Bool.not_eq_false', Bool.not_eq_eq_eq_not, Decidable.not_not] at h_) <;> (try simp only [r10_12, r10_13, r10_15, r10_17, r10_18, p7, p9, hbx2, hsb2, w1, c2, c3, hk, Int.toNat_natCast, h_, go_sem, Int.reduceTMod, Int.reduceTDiv, Int.reduceDiv, Int.reduceMod, Int.reduceAdd, Int.reduceSub, Int.reduceMul, Int.reduceNeg, Int.reducePow, Int.reduceEq, ↓reduceIte, Nat.reduceEqDiff, Nat.reduceAdd, Nat.reduceMul, Nat.reduceLeDiff, Nat.reduceSub, Nat.reduceLT, Int.reduceToNat, Int.reduceLT, Int.reduceLE, reduceCtorEq]))
      refine flat_r19 (sg := sg) (L := x.L) (n1 := n2) (sb := u + 2) (fb := u + 1) (dx := dx) (d := d) (fr := fr) (ow := ow) (id := id) (cl := cl) (R := R) (bb := x.c) (B := B) (by omega) hd (hfr (by omega)) hin hz2 hdx2 (by omega) hfr2 ?_ ?_ hid hR hcl hn2 (by omega) hne hsb2 (by omega) ?_ ?_ (by omega) (by omega) (by omega) ?_
      · simp only [p3, go_sem, Int.reduceTMod, Int.reduceTDiv, Int.reduceDiv, Int.reduceMod, Int.reduceAdd, Int.reduceSub, Int.reduceMul, Int.reduceNeg, Int.reducePow, Int.reduceEq, ↓reduceIte, Nat.reduceEqDiff, Nat.reduceAdd, Nat.reduceMul, Nat.reduceLeDiff, Nat.reduceSub, Nat.reduceLT, Int.reduceToNat, Int.reduceLT, Int.reduceLE, reduceCtorEq]
      · simp only [p8, go_sem, Int.reduceTMod, Int.reduceTDiv, Int.reduceDiv, Int.reduceMod, Int.reduceAdd, Int.reduceSub, Int.reduceMul, Int.reduceNeg, Int.reducePow, Int.reduceEq, ↓reduceIte, Nat.reduceEqDiff, Nat.reduceAdd, Nat.reduceMul, Nat.reduceLeDiff, Nat.reduceSub, Nat.reduceLT, Int.reduceToNat, Int.reduceLT, Int.reduceLE, reduceCtorEq]
      · simp only [p9, go_sem, Int.reduceTMod, Int.reduceTDiv, Int.reduceDiv, Int.reduceMod, Int.reduceAdd, Int.reduceSub, Int.reduceMul, Int.reduceNeg, Int.reducePow, Int.reduceEq, ↓reduceIte, Nat.reduceEqDiff, Nat.reduceAdd, Nat.reduceMul, Nat.reduceLeDiff, Nat.reduceSub, Nat.reduceLT, Int.reduceToNat, Int.reduceLT, Int.reduceLE, reduceCtorEq]
      · simp only [go_sem, Int.reduceTMod, Int.reduceTDiv, Int.reduceDiv, Int.reduceMod, Int.reduceAdd, Int.reduceSub, Int.reduceMul, Int.reduceNeg, Int.reducePow, Int.reduceEq, ↓reduceIte, Nat.reduceEqDiff, Nat.reduceAdd, Nat.reduceMul, Nat.reduceLeDiff, Nat.reduceSub, Nat.reduceLT, Int.reduceToNat, Int.reduceLT, Int.reduceLE, reduceCtorEq]
      · intro e' M' N' c' h1 h2 h3 h4 h5 _ _
        refine done e' M' N' c' _ h1 h2 h3 h4 h5 ?_
        rw [← hfin, if_neg (by omega)]
        simp only [subF]
        rw [if_neg (by omega), if_neg (by omega)]
    · skip
      try simp only [r10_12, r10_13, r10_15, r10_17, r10_18, p7, p9, hbx2, hsb2, w1, c2, c3, hk, Int.toNat_natCast, go_sem, Int.reduceTMod, Int.reduceTDiv, Int.reduceDiv, Int.reduceMod, Int.reduceAdd, Int.reduceSub, Int.reduceMul, Int.reduceNeg, Int.reducePow, Int.reduceEq, ↓reduceIte, Nat.reduceEqDiff, Nat.reduceAdd, Nat.reduceMul, Nat.reduceLeDiff, Nat.reduceSub, Nat.reduceLT, Int.reduceToNat, Int.reduceLT, Int.reduceLE, reduceCtorEq]
      repeat' ((first | refine FK_split (fun h_ => ?_) (fun h_ => ?_) | refine GK_split (fun h_ => ?_) (fun h_ => ?_) | refine ite_both (fun h_ => ?_) (fun h_ => ?_)) <;> (try simp only [decide_eq_true_eq, decide_eq_false_iff_not, Bool.not_true, Bool.not_false, Bool.not_eq_true', Bool.not_eq_false', Bool.not_eq_eq_eq_not, Decidable.not_not] at h_) <;> (try simp only [r10_12, r10_13, r10_15, r10_17, r10_18, p7, p9, hbx2, hsb2, w1, c2, c3, hk, Int.toNat_natCast, h_, go_sem, Int.reduceTMod, Int.reduceTDiv, Int.reduceDiv, Int.reduceMod, Int.reduceAdd, Int.reduceSub, Int.reduceMul, Int.reduceNeg, Int.reducePow, Int.reduceEq, ↓reduceIte, Nat.reduceEqDiff, Nat.reduceAdd, Nat.reduceMul, Nat.reduceLeDiff, Nat.reduceSub, Nat.reduceLT, Int.reduceToNat, Int.reduceLT, Int.reduceLE, reduceCtorEq]))
      refine flat_r16 (id := id) (cl := cl) (R := R) (bb := x.c) hid hR ?_ ?_
      · simp only [go_sem, Int.reduceTMod, Int.reduceTDiv, Int.reduceDiv, Int.reduceMod, Int.reduceAdd, Int.reduceSub, Int.reduceMul, Int.reduceNeg, Int.reducePow, Int.reduceEq, ↓reduceIte, Nat.reduceEqDiff, Nat.reduceAdd, Nat.reduceMul, Nat.reduceLeDiff, Nat.reduceSub, Nat.reduceLT, Int.reduceToNat, Int.reduceLT, Int.reduceLE, reduceCtorEq]
      · intro e' M' h4 h5 _ _
        refine next e' M' N2 (.sl id 0 (o1.length + 1) none 2) (by omega) ?_ ?_ (fun j hj hjb => ?_) ?_
        · rw [h5 bx (by omega)]; exact hbx2
        · rw [← hfin, if_neg (by omega)]
          simp only [subF]
          rw [if_pos hk]
          exact reb M' N2 cl ⟨x.L, true⟩ hn2 h4 (fun j k1 k2 k3 k4 k5 => h5 j k3) (hcl.keep hn2 (fun j hj => h5 j (fun h => hne (by rw [← h]; exact hj)))) (Or.inl rfl)
        · rw [h5 j (by omega)]; exact hf2 j hj hjb
        · rw [h5 u (Ne.symm hidu)]; exact hu2
  have start : ∀ (e1 : Nat → Reg) (M1 : Mem), e1 3 = .one (.ptr dx 0) → e1 7 = .one (.ptr bx 0) → e1 8 = .one (.ptr (u + 1) 0) → e1 9 = .one (.ptr (u + 2) 0) → (∀ j, j < u + 1 → M1 j = M j) → M1 (u + 1) = some ⟨fr.cs, true⟩ → M1 (u + 2) = some ⟨sg.cs, true⟩ →
      XK TA wb10 ⟨e1, M1, u + 3⟩ (.top Q) := by
    intro e1 M1 p3 p7 p8 p9 hf1 hfr1 hsb1
    have hO1 : OSc u B M1 u oc o := hO.keep (Nat.le_refl _) (fun id h1 h2 _ => hf1 id (by omega))
    have hbx1 : M1 bx = some ⟨[oc], true⟩ := by rw [hf1 bx (by omega)]; exact hbx
    by_cases hk : sg.k = 1
    · have n1' := na_0 (show bx < u + 3 by omega)
      try simp only [wb10, r10_10, r10_11, p7, p9, hsb1, hk, hbx1, n1', go_sem, Int.reduceTMod, Int.reduceTDiv, Int.reduceDiv, Int.reduceMod, Int.reduceAdd, Int.reduceSub, Int.reduceMul, Int.reduceNeg, Int.reducePow, Int.reduceEq, ↓reduceIte, Nat.reduceEqDiff, Nat.reduceAdd, Nat.reduceMul, Nat.reduceLeDiff, Nat.reduceSub, Nat.reduceLT, Int.reduceToNat, Int.reduceLT, Int.reduceLE, reduceCtorEq]
      repeat' ((first | refine FK_split (fun h_ => ?_) (fun h_ => ?_) | refine GK_split (fun h_ => ?_) (fun h_ => ?_) | refine ite_both (fun h_ => ?_) (fun h_ => ?_)) <;> (try simp only [decide_eq_true_eq, decide_eq_false_iff_not, Bool.not_true, Bool.not_false, Bool.not_eq_true', Bool.not_eq_false', Bool.not_eq_eq_eq_not, Decidable.not_not] at h_) <;> (try simp only [wb10, r10_10, r10_11, p7, p9, hsb1, hk, hbx1, n1', h_, go_sem, Int.reduceTMod, Int.reduceTDiv, Int.reduceDiv, Int.reduceMod, Int.reduceAdd, Int.reduceSub, Int.reduceMul, Int.reduceNeg, Int.reducePow, Int.reduceEq, ↓reduceIte, Nat.reduceEqDiff, Nat.reduceAdd, Nat.reduceMul, Nat.reduceLeDiff, Nat.reduceSub, Nat.reduceLT, Int.reduceToNat, Int.reduceLT, Int.reduceLE, reduceCtorEq]))
      refine K_pushS (h := hO1) (c := .sc (.slice none 0 0)) (b := false) (L := []) (ow := true) (by omega) (by omega) (fun id h1 h2 _ => upd_ne _ _ (by omega)) (upd_same _ _ _) (Or.inl ⟨rfl, rfl⟩) (fun i hi => by cases hi) (by omega) (by omega) ?_
      intro oc' m' ho hf hs
      have hlo : ∀ j, j < B → sid (.one oc) ≠ some j := fun j hj h => by have := hO.lt h; omega
      have hk2 : ∀ j, j < u + 3 → sid (.one oc) ≠ some j → m' j = M1 j := fun j hj h => by rw [hf j (by omega) h, upd_ne _ _ (by omega)]
      have hOu : ∀ j, u ≤ j → sid (.one oc) ≠ some j := fun j hj h => by have := hO.lt h; omega
      have hbx2 : m' bx = some ⟨[oc], true⟩ := by rw [hk2 bx (by omega) (hlo bx hbB)]; exact hbx1
      try simp only [p7, hbx2, go_sem, Int.reduceTMod, Int.reduceTDiv, Int.reduceDiv, Int.reduceMod, Int.reduceAdd, Int.reduceSub, Int.reduceMul, Int.reduceNeg, Int.reducePow, Int.reduceEq, ↓reduceIte, Nat.reduceEqDiff, Nat.reduceAdd, Nat.reduceMul, Nat.reduceLeDiff, Nat.reduceSub, Nat.reduceLT, Int.reduceToNat, Int.reduceLT, Int.reduceLE, reduceCtorEq]
      repeat' ((first | refine FK_split (fun h_ => ?_) (fun h_ => ?_) | refine GK_split (fun h_ => ?_) (fun h_ => ?_) | refine ite_both (fun h_ => ?_) (fun h_ => ?_)) <;> (try simp only [decide_eq_true_eq, decide_eq_false_iff_not, Bool.not_true, Bool.not_false, Bool.not_eq_true', Bool.not_eq_false', Bool.not_eq_eq_eq_not, Decidable.not_not] at h_) <;> (try simp only [p7, hbx2, h_, go_sem, Int.reduceTMod, Int.reduceTDiv, Int.reduceDiv, Int.reduceMod, Int.reduceAdd, Int.reduceSub, Int.reduceMul, Int.reduceNeg, Int.reducePow, Int.reduceEq, ↓reduceIte, Nat.reduceEqDiff, Nat.reduceAdd, Nat.reduceMul, Nat.reduceLeDiff, Nat.reduceSub, Nat.reduceLT, Int.reduceToNat, Int.reduceLT, Int.reduceLE, reduceCtorEq]))
      refine rest _ _ (u + 5) (u + 5) oc' o ⟨[], false⟩ (ho.keep (Nat.le_refl _) (fun id h1 h2 _ => upd_ne _ _ (by omega))) (Nat.le_refl _) (by omega) (upd_same _ _ _) ?_ ?_ ?_ ?_ (fun j hj hjb => ?_) ?_ ?_ ?_ (by simp only [List.length_nil]; omega) hlen ?_
      · simp only [p3, go_sem, Int.reduceTMod, Int.reduceTDiv, Int.reduceDiv, Int.reduceMod, Int.reduceAdd, Int.reduceSub, Int.reduceMul, Int.reduceNeg, Int.reducePow, Int.reduceEq, ↓reduceIte, Nat.reduceEqDiff, Nat.reduceAdd, Nat.reduceMul, Nat.reduceLeDiff, Nat.reduceSub, Nat.reduceLT, Int.reduceToNat, Int.reduceLT, Int.reduceLE, reduceCtorEq]
      · simp only [p7, go_sem, Int.reduceTMod, Int.reduceTDiv, Int.reduceDiv, Int.reduceMod, Int.reduceAdd, Int.reduceSub, Int.reduceMul, Int.reduceNeg, Int.reducePow, Int.reduceEq, ↓reduceIte, Nat.reduceEqDiff, Nat.reduceAdd, Nat.reduceMul, Nat.reduceLeDiff, Nat.reduceSub, Nat.reduceLT, Int.reduceToNat, Int.reduceLT, Int.reduceLE, reduceCtorEq]
      · simp only [p8, go_sem, Int.reduceTMod, Int.reduceTDiv, Int.reduceDiv, Int.reduceMod, Int.reduceAdd, Int.reduceSub, Int.reduceMul, Int.reduceNeg, Int.reducePow, Int.reduceEq, ↓reduceIte, Nat.reduceEqDiff, Nat.reduceAdd, Nat.reduceMul, Nat.reduceLeDiff, Nat.reduceSub, Nat.reduceLT, Int.reduceToNat, Int.reduceLT, Int.reduceLE, reduceCtorEq]
      · simp only [p9, go_sem, Int.reduceTMod, Int.reduceTDiv, Int.reduceDiv, Int.reduceMod, Int.reduceAdd, Int.reduceSub, Int.reduceMul, Int.reduceNeg, Int.reducePow, Int.reduceEq, ↓reduceIte, Nat.reduceEqDiff, Nat.reduceAdd, Nat.reduceMul, Nat.reduceLeDiff, Nat.reduceSub, Nat.reduceLT, Int.reduceToNat, Int.reduceLT, Int.reduceLE, reduceCtorEq]
      · rw [upd_ne _ _ hjb, hk2 j (by omega) (hlo j hj)]
        exact hf1 j (by omega)
      · rw [upd_ne _ _ (by omega), hk2 u (by omega) (hOu u (Nat.le_refl _))]
        exact hf1 u (by omega)
      · rw [upd_ne _ _ (by omega), hk2 (u + 1) (by omega) (hOu _ (by omega))]
        exact hfr1
      · rw [upd_ne _ _ (by omega), hk2 (u + 2) (by omega) (hOu _ (by omega))]
        exact hsb1
      · rw [if_pos hk]
        simp only [stepF]
        rw [if_pos hk]
        rfl
    · skip
      try simp only [wb10, r10_10, p9, hsb1, hk, go_sem, Int.reduceTMod, Int.reduceTDiv, Int.reduceDiv, Int.reduceMod, Int.reduceAdd, Int.reduceSub, Int.reduceMul, Int.reduceNeg, Int.reducePow, Int.reduceEq, ↓reduceIte, Nat.reduceEqDiff, Nat.reduceAdd, Nat.reduceMul, Nat.reduceLeDiff, Nat.reduceSub, Nat.reduceLT, Int.reduceToNat, Int.reduceLT, Int.reduceLE, reduceCtorEq]
      repeat' ((first | refine FK_split (fun h_ => ?_) (fun h_ => ?_) | refine GK_split (fun h_ => ?_) (fun h_ => ?_) | refine ite_both (fun h_ => ?_) (fun h_ => ?_)) <;> (try simp only [decide_eq_true_eq, decide_eq_false_iff_not, Bool.not_true, Bool.not_false, Bool.not_eq_true', Bool.not_eq_false', Bool.not_eq_eq_eq_not, Decidable.not_not] at h_) <;> (try simp only [wb10, r10_10, p9, hsb1, hk, h_, go_sem, Int.reduceTMod, Int.reduceTDiv, Int.reduceDiv, Int.reduceMod, Int.reduceAdd, Int.reduceSub, Int.reduceMul, Int.reduceNeg, Int.reducePow, Int.reduceEq, ↓reduceIte, Nat.reduceEqDiff, Nat.reduceAdd, Nat.reduceMul, Nat.reduceLeDiff, Nat.reduceSub, Nat.reduceLT, Int.reduceToNat, Int.reduceLT, Int.reduceLE, reduceCtorEq]))
      obtain ⟨o1, x, rfl⟩ := snoc_of (hopen hk)
      refine rest _ M1 (u + 3) u oc o1 x hO1 (by omega) (by omega) hbx1 ?_ ?_ ?_ ?_ (fun j hj _ => hf1 j (by omega)) (hf1 u (by omega)) hfr1 hsb1 (hL x (by simp)) (by simp at hlen; omega) ?_
      · simp only [p3, go_sem, Int.reduceTMod, Int.reduceTDiv, Int.reduceDiv, Int.reduceMod, Int.reduceAdd, Int.reduceSub, Int.reduceMul, Int.reduceNeg, Int.reducePow, Int.reduceEq, ↓reduceIte, Nat.reduceEqDiff, Nat.reduceAdd, Nat.reduceMul, Nat.reduceLeDiff, Nat.reduceSub, Nat.reduceLT, Int.reduceToNat, Int.reduceLT, Int.reduceLE, reduceCtorEq]
      · simp only [p7, go_sem, Int.reduceTMod, Int.reduceTDiv, Int.reduceDiv, Int.reduceMod, Int.reduceAdd, Int.reduceSub, Int.reduceMul, Int.reduceNeg, Int.reducePow, Int.reduceEq, ↓reduceIte, Nat.reduceEqDiff, Nat.reduceAdd, Nat.reduceMul, Nat.reduceLeDiff, Nat.reduceSub, Nat.reduceLT, Int.reduceToNat, Int.reduceLT, Int.reduceLE, reduceCtorEq]
      · simp only [p8, go_sem, Int.reduceTMod, Int.reduceTDiv, Int.reduceDiv, Int.reduceMod, Int.reduceAdd, Int.reduceSub, Int.reduceMul, Int.reduceNeg, Int.reducePow, Int.reduceEq, ↓reduceIte, Nat.reduceEqDiff, Nat.reduceAdd, Nat.reduceMul, Nat.reduceLeDiff, Nat.reduceSub, Nat.reduceLT, Int.reduceToNat, Int.reduceLT, Int.reduceLE, reduceCtorEq]
      · simp only [p9, go_sem, Int.reduceTMod, Int.reduceTDiv, Int.reduceDiv, Int.reduceMod, Int.reduceAdd, Int.reduceSub, Int.reduceMul, Int.reduceNeg, Int.reducePow, Int.reduceEq, ↓reduceIte, Nat.reduceEqDiff, Nat.reduceAdd, Nat.reduceMul, Nat.reduceLeDiff, Nat.reduceSub, Nat.reduceLT, Int.reduceToNat, Int.reduceLT, Int.reduceLE, reduceCtorEq]
      · rw [if_neg hk]
        simp only [stepF]
        rw [if_neg hk, modL_snoc]
  try simp only [wa10, r10_8, r10_9, q26, q27, go_sem, Int.reduceTMod, Int.reduceTDiv, Int.reduceDiv, Int.reduceMod, Int.reduceAdd, Int.reduceSub, Int.reduceMul, Int.reduceNeg, Int.reducePow, Int.reduceEq, ↓reduceIte, Nat.reduceEqDiff, Nat.reduceAdd, Nat.reduceMul, Nat.reduceLeDiff, Nat.reduceSub, Nat.reduceLT, Int.reduceToNat, Int.reduceLT, Int.reduceLE, reduceCtorEq]
  repeat' ((first | refine FK_split (fun h_ => ?_) (fun h_ => ?_) | refine GK_split (fun h_ => ?_) (fun h_ => ?_) | refine ite_both (fun h_ => ?_) (fun h_ => ?_)) <;> (try simp only [decide_eq_true_eq, decide_eq_false_iff_not, Bool.not_true, Bool.not_false, Bool.not_eq_true', Bool.not_eq_false', Bool.not_eq_eq_eq_not, Decidable.not_not] at h_) <;> (try simp only [wa10, r10_8, r10_9, q26, q27, h_, go_sem, Int.reduceTMod, Int.reduceTDiv, Int.reduceDiv, Int.reduceMod, Int.reduceAdd, Int.reduceSub, Int.reduceMul, Int.reduceNeg, Int.reducePow, Int.reduceEq, ↓reduceIte, Nat.reduceEqDiff, Nat.reduceAdd, Nat.reduceMul, Nat.reduceLeDiff, Nat.reduceSub, Nat.reduceLT, Int.reduceToNat, Int.reduceLT, Int.reduceLE, reduceCtorEq]))
  refine start _ _ ?_ ?_ ?_ ?_ (fun j hj => ?_) ?_ ?_
  · simp only [q3, go_sem, Int.reduceTMod, Int.reduceTDiv, Int.reduceDiv, Int.reduceMod, Int.reduceAdd, Int.reduceSub, Int.reduceMul, Int.reduceNeg, Int.reducePow, Int.reduceEq, ↓reduceIte, Nat.reduceEqDiff, Nat.reduceAdd, Nat.reduceMul, Nat.reduceLeDiff, Nat.reduceSub, Nat.reduceLT, Int.reduceToNat, Int.reduceLT, Int.reduceLE, reduceCtorEq]
  · simp only [q7, go_sem, Int.reduceTMod, Int.reduceTDiv, Int.reduceDiv, Int.reduceMod, Int.reduceAdd, Int.reduceSub, Int.reduceMul, Int.reduceNeg, Int.reducePow, Int.reduceEq, ↓reduceIte, Nat.reduceEqDiff, Nat.reduceAdd, Nat.reduceMul, Nat.reduceLeDiff, Nat.reduceSub, Nat.reduceLT, Int.reduceToNat, Int.reduceLT, Int.reduceLE, reduceCtorEq]
  · simp only [go_sem, Int.reduceTMod, Int.reduceTDiv, Int.reduceDiv, Int.reduceMod, Int.reduceAdd, Int.reduceSub, Int.reduceMul, Int.reduceNeg, Int.reducePow, Int.reduceEq, ↓reduceIte, Nat.reduceEqDiff, Nat.reduceAdd, Nat.reduceMul, Nat.reduceLeDiff, Nat.reduceSub, Nat.reduceLT, Int.reduceToNat, Int.reduceLT, Int.reduceLE, reduceCtorEq]
  · simp only [go_sem, Int.reduceTMod, Int.reduceTDiv, Int.reduceDiv, Int.reduceMod, Int.reduceAdd, Int.reduceSub, Int.reduceMul, Int.reduceNeg, Int.reducePow, Int.reduceEq, ↓reduceIte, Nat.reduceEqDiff, Nat.reduceAdd, Nat.reduceMul, Nat.reduceLeDiff, Nat.reduceSub, Nat.reduceLT, Int.reduceToNat, Int.reduceLT, Int.reduceLE, reduceCtorEq]
  · simp only [na_0 (show j < u + 1 by omega), go_sem, Int.reduceTMod, Int.reduceTDiv, Int.reduceDiv, Int.reduceMod, Int.reduceAdd, Int.reduceSub, Int.reduceMul, Int.reduceNeg, Int.reducePow, Int.reduceEq, ↓reduceIte, Nat.reduceEqDiff, Nat.reduceAdd, Nat.reduceMul, Nat.reduceLeDiff, Nat.reduceSub, Nat.reduceLT, Int.reduceToNat, Int.reduceLT, Int.reduceLE, reduceCtorEq]
    rw [if_neg (by omega), if_neg (by omega)]
  · simp only [go_sem, Int.reduceTMod, Int.reduceTDiv, Int.reduceDiv, Int.reduceMod, Int.reduceAdd, Int.reduceSub, Int.reduceMul, Int.reduceNeg, Int.reducePow, Int.reduceEq, ↓reduceIte, Nat.reduceEqDiff, Nat.reduceAdd, Nat.reduceMul, Nat.reduceLeDiff, Nat.reduceSub, Nat.reduceLT, Int.reduceToNat, Int.reduceLT, Int.reduceLE, reduceCtorEq]
  · simp only [go_sem, Int.reduceTMod, Int.reduceTDiv, Int.reduceDiv, Int.reduceMod, Int.reduceAdd, Int.reduceSub, Int.reduceMul, Int.reduceNeg, Int.reducePow, Int.reduceEq, ↓reduceIte, Nat.reduceEqDiff, Nat.reduceAdd, Nat.reduceMul, Nat.reduceLeDiff, Nat.reduceSub, Nat.reduceLT, Int.reduceToNat, Int.reduceLT, Int.reduceLE, reduceCtorEq]
theorem XK_walk {T : Nat → Option SFun} {fi nd p1 p2 bx id off len : Nat} {x : O} {a b : SC} {s : St} {k : Kt} {c : Cell} (hx : evO s.e x = .one (.clo fi [.ptr bx 0])) (hb : (s.m bx).bind (·.cells[0]?) = some c) (hs : segsOf c = some (id, off, len))
    (h : WLoop T nd p1 p2 a b s.e s.n id off (fun m n => KN T k ⟨s.e, m, n⟩) len 0 (upd s.m s.n (some ⟨[zc, zc], true⟩)) (s.n + 1)) : XK T (.walk fi nd p1 p2 x a b) s k := X_walk hx hb hs h
theorem w_walk {c : Cell} {m : Mem} {n : Nat} : Fn TA 33 [.one c] m n (fun r' m' n' => r' = .one (.clo 53 [.ptr n 0]) ∧ n' = n + 1 ∧ m' n = some ⟨[c], true⟩) := by
  refine Fn_ofK (fn := F33) rfl (by simp [F33]) ?_
  try simp only [r33_0, r33_1, c33, F33, go_sem, Int.reduceTMod, Int.reduceTDiv, Int.reduceDiv, Int.reduceMod, Int.reduceAdd, Int.reduceSub, Int.reduceMul, Int.reduceNeg, Int.reducePow, Int.reduceEq, ↓reduceIte, Nat.reduceEqDiff, Nat.reduceAdd, Nat.reduceMul, Nat.reduceLeDiff, Nat.reduceSub, Nat.reduceLT, Int.reduceToNat, Int.reduceLT, Int.reduceLE, reduceCtorEq]
  repeat' ((first | refine FK_split (fun h_ => ?_) (fun h_ => ?_) | refine GK_split (fun h_ => ?_) (fun h_ => ?_) | refine ite_both (fun h_ => ?_) (fun h_ => ?_)) <;> (try simp only [decide_eq_true_eq, decide_eq_false_iff_not, Bool.not_true, Bool.not_false, Bool.not_eq_true', Bool.not_eq_false', Bool.not_eq_eq_eq_not, Decidable.not_not] at h_) <;> (try simp only [r33_0, r33_1, c33, F33, h_, go_sem, Int.reduceTMod, Int.reduceTDiv, Int.reduceDiv, Int.reduceMod, Int.reduceAdd, Int.reduceSub, Int.reduceMul, Int.reduceNeg, Int.reducePow, Int.reduceEq, ↓reduceIte, Nat.reduceEqDiff, Nat.reduceAdd, Nat.reduceMul, Nat.reduceLeDiff, Nat.reduceSub, Nat.reduceLT, Int.reduceToNat, Int.reduceLT, Int.reduceLE, reduceCtorEq]))
theorem Fn_callF {T : Nat → Option SFun} {f : Nat} {a : List Reg} {m : Mem} {n : Nat} {r0 : Reg} (h : callF T f a m n = some r0) : Fn T f a m n (fun r _ _ => r = r0) := by
  unfold callF at h
  obtain ⟨⟨r, m', n'⟩, h1, h2⟩ := Option.map_eq_some_iff.1 h
  obtain ⟨k, hk⟩ := callR_inv h1
  exact ⟨k, r, m', n', hk, h2⟩
theorem Need_Fn (k : Int) : Fn TA 15 [.one (I k)] (tabM needC) 1 (fun r _ _ => r = .one (.sc (.int .i64 (need k)))) := Fn_callF (v_Need k)
/-- What path.Flat hands back. -/
def PFQ (l : List Sg) (d : Int) (n : Nat) (r' : Reg) (m' : Mem) (n' : Nat) : Prop :=
  ∃ x k, r' = .tup [x, RI k] ∧ n ≤ n' ∧ ((chkP l ≠ 0 ∧ x = rnil ∧ k = chkP l) ∨ (chkP l = 0 ∧ (d < 0 ∨ 6 < d) ∧ x = rnil ∧ k = 30) ∨
    (chkP l = 0 ∧ 0 ≤ d ∧ d ≤ 6 ∧ k = 0 ∧ ∃ oc, x = .one oc ∧ OSc 0 (n + 1) m' n' oc (stI d.toNat l l.length).2))
set_option maxHeartbeats 4000000 in
theorem w_PFlat {r : Reg} {l : List Sg} {d : Int} {m : Mem} {n : Nat} {o : Bool} (hr : RSg m n r l) (h0 : m 0 = some ⟨needC, o⟩) (hn : 0 < n) (hl : l.length ≤ 100000) :
    Fn TA 10 [r, RI d] m n (PFQ l d n) := by
  refine Fn_ofK (fn := F10) rfl (by simp [F10]) ?_
  have hlen := hr.len
  have hr0 : RSg (upd m n (some ⟨[I d], true⟩)) (n + 1) r l := hr.keep (by omega) (fun id hid => upd_ne _ _ (by omega))
  have hz : (upd m n (some ⟨[I d], true⟩)) 0 = some ⟨needC, o⟩ := by rw [upd_ne _ _ (by omega)]; exact h0
  have vC := v_Check (o := false) hr0.frz (by rw [frz_at, hz]; rfl) (by omega)
  by_cases hk : chkP l = 0
  case neg =>
    try simp only [r10_0, r10_1, r10_2, r10_3, r10_4, r10_5, r10_6, r10_7, r10_8, r10_9, r10_10, r10_11, r10_12, r10_13, r10_15, r10_16, r10_17, r10_18, r10_19, r10_20, r10_14, r10_21, c10, F10, vC, hk, go_sem, Int.reduceTMod, Int.reduceTDiv, Int.reduceDiv, Int.reduceMod, Int.reduceAdd, Int.reduceSub, Int.reduceMul, Int.reduceNeg, Int.reducePow, Int.reduceEq, ↓reduceIte, Nat.reduceEqDiff, Nat.reduceAdd, Nat.reduceMul, Nat.reduceLeDiff, Nat.reduceSub, Nat.reduceLT, Int.reduceToNat, Int.reduceLT, Int.reduceLE, reduceCtorEq]
    repeat' ((first | refine FK_split (fun h_ => ?_) (fun h_ => ?_) | refine GK_split (fun h_ => ?_) (fun h_ => ?_) | refine ite_both (fun h_ => ?_) (fun h_ => ?_)) <;> (try simp only [decide_eq_true_eq, decide_eq_false_iff_not, Bool.not_true, Bool.not_false, Bool.not_eq_true', Bool.not_eq_false', Bool.not_eq_eq_eq_not, Decidable.not_not] at h_) <;> (try simp only [r10_0, r10_1, r10_2, r10_3, r10_4, r10_5, r10_6, r10_7, r10_8, r10_9, r10_10, r10_11, r10_12, r10_13, r10_15, r10_16, r10_17, r10_18, r10_19, r10_20, r10_14, r10_21, c10, F10, vC, hk, h_, go_sem, Int.reduceTMod, Int.reduceTDiv, Int.reduceDiv, Int.reduceMod, Int.reduceAdd, Int.reduceSub, Int.reduceMul, Int.reduceNeg, Int.reducePow, Int.reduceEq, ↓reduceIte, Nat.reduceEqDiff, Nat.reduceAdd, Nat.reduceMul, Nat.reduceLeDiff, Nat.reduceSub, Nat.reduceLT, Int.reduceToNat, Int.reduceLT, Int.reduceLE, reduceCtorEq]))
    exact ⟨_, _, rfl, by omega, Or.inl ⟨hk, rfl, rfl⟩⟩
  by_cases d0 : d < 0
  · skip
    try simp only [r10_0, r10_1, r10_2, r10_3, r10_4, r10_5, r10_6, r10_7, r10_8, r10_9, r10_10, r10_11, r10_12, r10_13, r10_15, r10_16, r10_17, r10_18, r10_19, r10_20, r10_14, r10_21, c10, F10, vC, hk, d0, go_sem, Int.reduceTMod, Int.reduceTDiv, Int.reduceDiv, Int.reduceMod, Int.reduceAdd, Int.reduceSub, Int.reduceMul, Int.reduceNeg, Int.reducePow, Int.reduceEq, ↓reduceIte, Nat.reduceEqDiff, Nat.reduceAdd, Nat.reduceMul, Nat.reduceLeDiff, Nat.reduceSub, Nat.reduceLT, Int.reduceToNat, Int.reduceLT, Int.reduceLE, reduceCtorEq]
    repeat' ((first | refine FK_split (fun h_ => ?_) (fun h_ => ?_) | refine GK_split (fun h_ => ?_) (fun h_ => ?_) | refine ite_both (fun h_ => ?_) (fun h_ => ?_)) <;> (try simp only [decide_eq_true_eq, decide_eq_false_iff_not, Bool.not_true, Bool.not_false, Bool.not_eq_true', Bool.not_eq_false', Bool.not_eq_eq_eq_not, Decidable.not_not] at h_) <;> (try simp only [r10_0, r10_1, r10_2, r10_3, r10_4, r10_5, r10_6, r10_7, r10_8, r10_9, r10_10, r10_11, r10_12, r10_13, r10_15, r10_16, r10_17, r10_18, r10_19, r10_20, r10_14, r10_21, c10, F10, vC, hk, d0, h_, go_sem, Int.reduceTMod, Int.reduceTDiv, Int.reduceDiv, Int.reduceMod, Int.reduceAdd, Int.reduceSub, Int.reduceMul, Int.reduceNeg, Int.reducePow, Int.reduceEq, ↓reduceIte, Nat.reduceEqDiff, Nat.reduceAdd, Nat.reduceMul, Nat.reduceLeDiff, Nat.reduceSub, Nat.reduceLT, Int.reduceToNat, Int.reduceLT, Int.reduceLE, reduceCtorEq]))
    exact ⟨_, _, rfl, by omega, Or.inr (Or.inl ⟨hk, Or.inl d0, rfl, rfl⟩)⟩
  by_cases d6 : 6 < d
  · skip
    try simp only [r10_0, r10_1, r10_2, r10_3, r10_4, r10_5, r10_6, r10_7, r10_8, r10_9, r10_10, r10_11, r10_12, r10_13, r10_15, r10_16, r10_17, r10_18, r10_19, r10_20, r10_14, r10_21, c10, F10, vC, hk, d0, d6, go_sem, Int.reduceTMod, Int.reduceTDiv, Int.reduceDiv, Int.reduceMod, Int.reduceAdd, Int.reduceSub, Int.reduceMul, Int.reduceNeg, Int.reducePow, Int.reduceEq, ↓reduceIte, Nat.reduceEqDiff, Nat.reduceAdd, Nat.reduceMul, Nat.reduceLeDiff, Nat.reduceSub, Nat.reduceLT, Int.reduceToNat, Int.reduceLT, Int.reduceLE, reduceCtorEq]
    repeat' ((first | refine FK_split (fun h_ => ?_) (fun h_ => ?_) | refine GK_split (fun h_ => ?_) (fun h_ => ?_) | refine ite_both (fun h_ => ?_) (fun h_ => ?_)) <;> (try simp only [decide_eq_true_eq, decide_eq_false_iff_not, Bool.not_true, Bool.not_false, Bool.not_eq_true', Bool.not_eq_false', Bool.not_eq_eq_eq_not, Decidable.not_not] at h_) <;> (try simp only [r10_0, r10_1, r10_2, r10_3, r10_4, r10_5, r10_6, r10_7, r10_8, r10_9, r10_10, r10_11, r10_12, r10_13, r10_15, r10_16, r10_17, r10_18, r10_19, r10_20, r10_14, r10_21, c10, F10, vC, hk, d0, d6, h_, go_sem, Int.reduceTMod, Int.reduceTDiv, Int.reduceDiv, Int.reduceMod, Int.reduceAdd, Int.reduceSub, Int.reduceMul, Int.reduceNeg, Int.reducePow, Int.reduceEq, ↓reduceIte, Nat.reduceEqDiff, Nat.reduceAdd, Nat.reduceMul, Nat.reduceLeDiff, Nat.reduceSub, Nat.reduceLT, Int.reduceToNat, Int.reduceLT, Int.reduceLE, reduceCtorEq]))
    exact ⟨_, _, rfl, by omega, Or.inr (Or.inl ⟨hk, Or.inr d6, rfl, rfl⟩)⟩
  obtain ⟨dn, rfl⟩ : ∃ a : Nat, d = a := ⟨d.toNat, by omega⟩
  obtain ⟨c, rfl⟩ : ∃ c, r = .one c := by
    rcases hr with ⟨rfl, _⟩ | ⟨id, off, cap, rfl, _⟩
    · exact ⟨_, rfl⟩
    · exact ⟨_, rfl⟩
  obtain ⟨id, off, hseg, hrow⟩ : ∃ id off, segsOf c = some (id, off, l.length) ∧ ∀ (i : Nat) (s : Sg), l[i]? = some s → id < n ∧ rd m id (off + i * 7) 7 = some s.cs := by
    rcases hr with ⟨e, rfl⟩ | ⟨id, off, cap, e, hid, hrd⟩
    · injection e with e
      subst e
      exact ⟨0, 0, rfl, fun i s h => by simp at h⟩
    · injection e with e
      subst e
      refine ⟨id, off, ?_, fun i s h => ⟨hid, rd_at cs7 hrd h⟩⟩
      simp only [segsOf]
      rw [if_pos (by omega)]
  try simp only [F10, c10, r10_0, r10_1, r10_2, r10_4, r10_6, r10_7, vC, hk, d0, d6, go_sem, Int.reduceTMod, Int.reduceTDiv, Int.reduceDiv, Int.reduceMod, Int.reduceAdd, Int.reduceSub, Int.reduceMul, Int.reduceNeg, Int.reducePow, Int.reduceEq, ↓reduceIte, Nat.reduceEqDiff, Nat.reduceAdd, Nat.reduceMul, Nat.reduceLeDiff, Nat.reduceSub, Nat.reduceLT, Int.reduceToNat, Int.reduceLT, Int.reduceLE, reduceCtorEq]
  repeat' ((first | refine FK_split (fun h_ => ?_) (fun h_ => ?_) | refine GK_split (fun h_ => ?_) (fun h_ => ?_) | refine ite_both (fun h_ => ?_) (fun h_ => ?_)) <;> (try simp only [decide_eq_true_eq, decide_eq_false_iff_not, Bool.not_true, Bool.not_false, Bool.not_eq_true', Bool.not_eq_false', Bool.not_eq_eq_eq_not, Decidable.not_not] at h_) <;> (try simp only [F10, c10, r10_0, r10_1, r10_2, r10_4, r10_6, r10_7, vC, hk, d0, d6, h_, go_sem, Int.reduceTMod, Int.reduceTDiv, Int.reduceDiv, Int.reduceMod, Int.reduceAdd, Int.reduceSub, Int.reduceMul, Int.reduceNeg, Int.reducePow, Int.reduceEq, ↓reduceIte, Nat.reduceEqDiff, Nat.reduceAdd, Nat.reduceMul, Nat.reduceLeDiff, Nat.reduceSub, Nat.reduceLT, Int.reduceToNat, Int.reduceLT, Int.reduceLE, reduceCtorEq]))
  refine RK_callk ?_
  show Fn TA _ [.one c] _ _ _
  refine w_walk.mono ?_
  rintro _ m1 _ ⟨rfl, rfl, hb⟩
  rw [show max (n + 2) (n + 2 + 1) = n + 3 by omega]
  have hz1 : ∀ j, j < n → unfrz (upd (upd m n (some ⟨[I dn], true⟩)) (n + 1) (some ⟨[.sc (.slice none 0 0)], true⟩)) (n + 2) m1 j = m j := fun j hj => by rw [unfrz_at, if_pos (by omega), upd_ne _ _ (by omega), upd_ne _ _ (by omega)]
  have hd1 : unfrz (upd (upd m n (some ⟨[I dn], true⟩)) (n + 1) (some ⟨[.sc (.slice none 0 0)], true⟩)) (n + 2) m1 n = some ⟨[I dn], true⟩ := by rw [unfrz_at, if_pos (by omega), upd_ne _ _ (by omega), upd_same]
  have hb1 : unfrz (upd (upd m n (some ⟨[I dn], true⟩)) (n + 1) (some ⟨[.sc (.slice none 0 0)], true⟩)) (n + 2) m1 (n + 1) = some ⟨[.sc (.slice none 0 0)], true⟩ := by rw [unfrz_at, if_pos (by omega), upd_same]
  have hc1 : unfrz (upd (upd m n (some ⟨[I dn], true⟩)) (n + 1) (some ⟨[.sc (.slice none 0 0)], true⟩)) (n + 2) m1 (n + 2) = some ⟨[c], true⟩ := by rw [unfrz_at, if_neg (by omega)]; exact hb
  generalize unfrz (upd (upd m n (some ⟨[I dn], true⟩)) (n + 1) (some ⟨[.sc (.slice none 0 0)], true⟩)) (n + 2) m1 = M1 at *
  try simp only [go_sem, Int.reduceTMod, Int.reduceTDiv, Int.reduceDiv, Int.reduceMod, Int.reduceAdd, Int.reduceSub, Int.reduceMul, Int.reduceNeg, Int.reducePow, Int.reduceEq, ↓reduceIte, Nat.reduceEqDiff, Nat.reduceAdd, Nat.reduceMul, Nat.reduceLeDiff, Nat.reduceSub, Nat.reduceLT, Int.reduceToNat, Int.reduceLT, Int.reduceLE, reduceCtorEq]
  repeat' ((first | refine FK_split (fun h_ => ?_) (fun h_ => ?_) | refine GK_split (fun h_ => ?_) (fun h_ => ?_) | refine ite_both (fun h_ => ?_) (fun h_ => ?_)) <;> (try simp only [decide_eq_true_eq, decide_eq_false_iff_not, Bool.not_true, Bool.not_false, Bool.not_eq_true', Bool.not_eq_false', Bool.not_eq_eq_eq_not, Decidable.not_not] at h_) <;> (try simp only [h_, go_sem, Int.reduceTMod, Int.reduceTDiv, Int.reduceDiv, Int.reduceMod, Int.reduceAdd, Int.reduceSub, Int.reduceMul, Int.reduceNeg, Int.reducePow, Int.reduceEq, ↓reduceIte, Nat.reduceEqDiff, Nat.reduceAdd, Nat.reduceMul, Nat.reduceLeDiff, Nat.reduceSub, Nat.reduceLT, Int.reduceToNat, Int.reduceLT, Int.reduceLE, reduceCtorEq]))
  have key : ∀ (E : Nat → Reg) (K : Kt), E 3 = .one (.ptr n 0) → E 7 = .one (.ptr (n + 1) 0) → (∀ M N oc, n + 4 ≤ N → M (n + 1) = some ⟨[oc], true⟩ → OSc 0 (n + 4) M N oc (stI dn l l.length).2 → (∀ j, j < n → M j = m j) → KN TA K ⟨E, M, N⟩) →
      ∀ k i M N, i + k = l.length → n + 4 ≤ N → M n = some ⟨[I dn], true⟩ → (∃ oc, M (n + 1) = some ⟨[oc], true⟩ ∧ OSc 0 (n + 4) M N oc (stI dn l i).2) → M (n + 3) = some ⟨(stI dn l i).1.cs, true⟩ → (∀ j, j < n → M j = m j) →
        WLoop TA 15 26 27 wa10 wb10 E (n + 3) id off (fun m n => KN TA K ⟨E, m, n⟩) k i M N := by
    intro E K q3 q7 hend k
    induction k with
    | zero =>
      rintro i M N hi hN hx ⟨oc, hbx, hO⟩ hf hm
      obtain rfl : i = l.length := by omega
      exact hend M N oc hN hbx hO hm
    | succ k ih =>
      rintro i M N hi hN hx ⟨oc, hbx, hO⟩ hf hm
      have hs : l[i]? = some (l[i]'(by omega)) := List.getElem?_eq_getElem (by omega)
      have hsu := stI_succ (d := dn) hs
      obtain ⟨hid, hrd⟩ := hrow i _ hs
      obtain ⟨k1, k5, hin, hop⟩ := ahead (d := dn) hk hs
      obtain ⟨hl1, hl2⟩ := stI_len (d := dn) (by omega) (l := l) i (by omega)
      generalize l[i]'(by omega) = sg at *
      refine ⟨sg.cs, (stI dn l i).1.cs, by rw [rd_same (hm id hid)]; exact hrd, by rw [rd_of hf]; rfl, ?_⟩
      show XK TA (.seq wa10 wb10) ⟨_, _, _⟩ (.top _)
      have hu : ∀ j, j < N → (upd M N (some ⟨sg.cs, true⟩)) j = M j := fun j hj => upd_ne _ _ (by omega)
      refine flat_round (B := n + 4) (u := N) (dx := n) (bx := n + 1) (d := dn) (oc := oc) (o := (stI dn l i).2) (fr := (stI dn l i).1) (sg := sg) (ow := o) (by omega) k1 k5 hin (fun h => (hop h).1) (fun h => by obtain ⟨_, q, _, _, _, _, h6⟩ := hop h; exact h6) (by omega) (fun x hx => by have := hl2 x hx; omega)
        ((hO.keep (Nat.le_refl _) (fun id h1 h2 _ => hu id h2)).re (Or.inl (Nat.le_refl _))) hN (upd_same _ _ _) (by rw [hu n (by omega)]; exact hx) (by omega) (by rw [hu _ (by omega)]; exact hbx) (by omega) (by omega) (by rw [hu 0 (by omega), hm 0 hn]; exact h0) (by omega) ?_ ?_ ?_ ?_ ?_
      · simp only [q3, go_sem, Int.reduceTMod, Int.reduceTDiv, Int.reduceDiv, Int.reduceMod, Int.reduceAdd, Int.reduceSub, Int.reduceMul, Int.reduceNeg, Int.reducePow, Int.reduceEq, ↓reduceIte, Nat.reduceEqDiff, Nat.reduceAdd, Nat.reduceMul, Nat.reduceLeDiff, Nat.reduceSub, Nat.reduceLT, Int.reduceToNat, Int.reduceLT, Int.reduceLE, reduceCtorEq]
      · simp only [q7, go_sem, Int.reduceTMod, Int.reduceTDiv, Int.reduceDiv, Int.reduceMod, Int.reduceAdd, Int.reduceSub, Int.reduceMul, Int.reduceNeg, Int.reducePow, Int.reduceEq, ↓reduceIte, Nat.reduceEqDiff, Nat.reduceAdd, Nat.reduceMul, Nat.reduceLeDiff, Nat.reduceSub, Nat.reduceLT, Int.reduceToNat, Int.reduceLT, Int.reduceLE, reduceCtorEq]
      · simp only [go_sem, Int.reduceTMod, Int.reduceTDiv, Int.reduceDiv, Int.reduceMod, Int.reduceAdd, Int.reduceSub, Int.reduceMul, Int.reduceNeg, Int.reducePow, Int.reduceEq, ↓reduceIte, Nat.reduceEqDiff, Nat.reduceAdd, Nat.reduceMul, Nat.reduceLeDiff, Nat.reduceSub, Nat.reduceLT, Int.reduceToNat, Int.reduceLT, Int.reduceLE, reduceCtorEq]
      · simp only [go_sem, Int.reduceTMod, Int.reduceTDiv, Int.reduceDiv, Int.reduceMod, Int.reduceAdd, Int.reduceSub, Int.reduceMul, Int.reduceNeg, Int.reducePow, Int.reduceEq, ↓reduceIte, Nat.reduceEqDiff, Nat.reduceAdd, Nat.reduceMul, Nat.reduceLeDiff, Nat.reduceSub, Nat.reduceLT, Int.reduceToNat, Int.reduceLT, Int.reduceLE, reduceCtorEq]
      intro e' M' N' oc' hN' hbx' hO' hfr' hu'
      have hseg : M' N = some ⟨sg.cs, true⟩ := by rw [hu', upd_same]
      have hlow : ∀ j, j < n → M' j = m j := fun j hj => by rw [hfr' j (by omega) (by omega), hu j (by omega)]; exact hm j hj
      have hz' : M' 0 = some ⟨needC, o⟩ := by rw [hlow 0 hn]; exact h0
      have hx' : M' n = some ⟨[I dn], true⟩ := by rw [hfr' n (by omega) (by omega), hu n (by omega)]; exact hx
      have hf' : M' (n + 3) = some ⟨(stI dn l i).1.cs, true⟩ := by rw [hfr' (n + 3) (by omega) (by omega), hu _ (by omega)]; exact hf
      have hO2 : OSc 0 (n + 4) M' N' oc' (stI dn l (i + 1)).2 := by rw [hsu]; exact hO'.re (Or.inr (by omega))
      refine ⟨rfl, I sg.k, need sg.k, by simp [hseg], ⟨_, hz', rfl, rfl, Need_Fn sg.k⟩, ?_⟩
      have hnb := need_bd sg.k
      by_cases hne : need sg.k = 0
      · refine Or.inl ⟨by omega, ih (i + 1) M' N' (by omega) (by omega) hx' ⟨oc', hbx', hO2⟩ ?_ hlow⟩
        rw [hsu]
        simp only [stF, nxtP]
        rw [if_pos hne]
        exact hf'
      · refine Or.inr ⟨by omega, by omega, (ptJ sg ((need sg.k).toNat - 1)).cs, upd M' (n + 3) (some ⟨(ptJ sg ((need sg.k).toNat - 1)).cs, true⟩), ?_, ?_, ih (i + 1) _ N' (by omega) (by omega) ?_ ⟨oc', ?_, ?_⟩ ?_ ?_⟩
        · rw [rd_of hseg]
          have h3 : (need sg.k).toNat = 1 ∨ (need sg.k).toNat = 2 ∨ (need sg.k).toNat = 3 := by omega
          rcases h3 with h3 | h3 | h3 <;> rw [h3] <;> rfl
        · simp only [wr, hf']
          rfl
        · rw [upd_ne _ _ (by omega)]; exact hx'
        · rw [upd_ne _ _ (by omega)]; exact hbx'
        · exact hO2.keep (Nat.le_refl _) (fun id h1 h2 _ => upd_ne _ _ (by omega))
        · rw [upd_same, hsu]
          simp only [stF, nxtP]
          rw [if_neg hne]
        · intro j hj
          rw [upd_ne _ _ (by omega)]
          exact hlow j hj
  refine XK_walk (c := c) (bx := n + 2) (id := id) (off := off) (len := l.length) ?_ ?_ hseg ?_
  · simp only [go_sem, Int.reduceTMod, Int.reduceTDiv, Int.reduceDiv, Int.reduceMod, Int.reduceAdd, Int.reduceSub, Int.reduceMul, Int.reduceNeg, Int.reducePow, Int.reduceEq, ↓reduceIte, Nat.reduceEqDiff, Nat.reduceAdd, Nat.reduceMul, Nat.reduceLeDiff, Nat.reduceSub, Nat.reduceLT, Int.reduceToNat, Int.reduceLT, Int.reduceLE, reduceCtorEq]
  · simp [hc1]
  · refine key _ _ ?_ ?_ ?_ l.length 0 _ _ (by omega) (show n + 4 ≤ n + 3 + 1 by omega) ?_ ⟨.sc (.slice none 0 0), ?_, ?_⟩ ?_ ?_
    · simp only [go_sem, Int.reduceTMod, Int.reduceTDiv, Int.reduceDiv, Int.reduceMod, Int.reduceAdd, Int.reduceSub, Int.reduceMul, Int.reduceNeg, Int.reducePow, Int.reduceEq, ↓reduceIte, Nat.reduceEqDiff, Nat.reduceAdd, Nat.reduceMul, Nat.reduceLeDiff, Nat.reduceSub, Nat.reduceLT, Int.reduceToNat, Int.reduceLT, Int.reduceLE, reduceCtorEq]
    · simp only [go_sem, Int.reduceTMod, Int.reduceTDiv, Int.reduceDiv, Int.reduceMod, Int.reduceAdd, Int.reduceSub, Int.reduceMul, Int.reduceNeg, Int.reducePow, Int.reduceEq, ↓reduceIte, Nat.reduceEqDiff, Nat.reduceAdd, Nat.reduceMul, Nat.reduceLeDiff, Nat.reduceSub, Nat.reduceLT, Int.reduceToNat, Int.reduceLT, Int.reduceLE, reduceCtorEq]
    · intro M N oc h1 h2 h3 h4
      try simp only [r10_21, h2, go_sem, Int.reduceTMod, Int.reduceTDiv, Int.reduceDiv, Int.reduceMod, Int.reduceAdd, Int.reduceSub, Int.reduceMul, Int.reduceNeg, Int.reducePow, Int.reduceEq, ↓reduceIte, Nat.reduceEqDiff, Nat.reduceAdd, Nat.reduceMul, Nat.reduceLeDiff, Nat.reduceSub, Nat.reduceLT, Int.reduceToNat, Int.reduceLT, Int.reduceLE, reduceCtorEq]
      repeat' ((first | refine FK_split (fun h_ => ?_) (fun h_ => ?_) | refine GK_split (fun h_ => ?_) (fun h_ => ?_) | refine ite_both (fun h_ => ?_) (fun h_ => ?_)) <;> (try simp only [decide_eq_true_eq, decide_eq_false_iff_not, Bool.not_true, Bool.not_false, Bool.not_eq_true', Bool.not_eq_false', Bool.not_eq_eq_eq_not, Decidable.not_not] at h_) <;> (try simp only [r10_21, h2, h_, go_sem, Int.reduceTMod, Int.reduceTDiv, Int.reduceDiv, Int.reduceMod, Int.reduceAdd, Int.reduceSub, Int.reduceMul, Int.reduceNeg, Int.reducePow, Int.reduceEq, ↓reduceIte, Nat.reduceEqDiff, Nat.reduceAdd, Nat.reduceMul, Nat.reduceLeDiff, Nat.reduceSub, Nat.reduceLT, Int.reduceToNat, Int.reduceLT, Int.reduceLE, reduceCtorEq]))
      exact ⟨_, _, rfl, by omega, Or.inr (Or.inr ⟨hk, by omega, by omega, rfl, oc, rfl, h3.base (by omega)⟩)⟩
    · rw [upd_ne _ _ (show n ≠ n + 3 by omega)]; exact hd1
    · rw [upd_ne _ _ (show n + 1 ≠ n + 3 by omega)]; exact hb1
    · exact OSc.nil
    · exact upd_same _ _ _
    · intro j hj
      rw [upd_ne _ _ (show j ≠ n + 3 by omega)]
      exact hz1 j hj
end Go.Proofs.YtpleidpbapgmiaaDoor.Sy
