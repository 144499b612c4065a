/- The law StylePaints walked. Conditions: those that each theorem names. -/
import Derived.Test.YtffhhgcgnillaaaSpH
namespace Go.Proofs.Ytffhhgcgnillaaa.Sy
open Go Go.Proofs
set_option linter.unusedSimpArgs false
set_option linter.unusedVariables false
set_option maxRecDepth 20000
attribute [local go_sem] XK_seq XK_block XK_skip XK_exit XK_ret XK_cond XK_reg XK_dreg XK_ureg KN_seq KN_blk KN_lp KN_chk KN_chku KN_top KN_fin KX_seq KX_lp KX_blk KX_chk KX_top KR_seq KR_blk KR_lp KR_chk KR_top KR_fin FK_true FK_false RK_nil RK_mv RK_pick RK_alloc RK_box RK_build RK_bslice RK_load1 RK_loadA RK_store RK_nilchk RK_bin RK_beq RK_eqv RK_eqnil RK_un RK_conv RK_mkfn RK_mkslice RK_slS RK_slA RK_fadr RK_fld RK_iadrA RK_iadrS RK_idxA RK_istr RK_ext RK_lenC RK_cap RK_app RK_appz RK_pre RK_cpy RK_mn RK_mx RK_len RK_carry RK_clr carryR um0 um1 ThenK_some RK_guard GK_tt GK_ff GK_tf GK_ft GK_none QK_some RK_callQ RK_callZ RK_callT TK_some VK_clo RK_callV
  evalOp evO evOs upd_at unfrz_at putE_some putE_none boolOf_b boolOf_tup Option.map_some evRes pack_one pack_two pack_three pack_none List.getD_cons_zero List.getD_cons_succ getD_nil
  Option.some.injEq exists_eq_left' Reg.cs? fillC setL List.set_cons_zero List.set_cons_succ List.length_cons List.length_nil rd_upd rd_updn rdB wr List.drop_zero List.drop_succ_cons List.take_succ_cons List.take_zero List.getElem?_cons_zero List.getElem?_cons_succ
  ix Int.toNat_zero lenO_sl lenO_nil nadd na_eq na_eq' na_lt na_ee na_ll na_ne na_ne' na_tt
attribute [local go_sem] Reg.flat_one Reg.flat_agg Reg.flat_tup flats_nil flats_cons Cell.flat_sc Cell.flat_ptr List.all_cons List.all_nil disOk safeOk safeR decide_eq_true_eq decide_eq_false_iff_not
  List.map_cons List.map_nil List.cons_append List.nil_append List.append_nil evalOp.capsOf Bool.false_bne Bool.bne_false Bool.true_bne Bool.bne_true bne_self_eq_false beq_self_eq_true Bool.not_not Bool.false_and Bool.and_false Bool.true_or Bool.or_true beq_iff_eq eqCells
  Bool.true_beq Bool.false_beq Bool.not_eq_true' Bool.not_eq_eq_eq_not Bool.not_eq_false' and_false false_and frz_at idOf noId Option.isSome_some Bool.and_eq_true
attribute [local go_sem] wr_eq bV_add bV_sub bV_mul bV_eql bV_neq bV_lss bV_leq bV_gtr bV_geq bV_quo bV_rem bV_shr bV_shl uV_not uV_neg wrapU bits_and bits_or bits_xor IntKind.bits Nat.min_eq_left Nat.min_eq_right Nat.min_self
attribute [local go_sem] bne_iff_ne Int.cast_ofNat_Int Nat.zero_add Nat.add_zero and_self and_true true_and ne_eq not_false_eq_true not_true_eq_false decide_true decide_false Bool.false_eq_true Bool.not_true Bool.not_false Bool.true_and Bool.and_true Bool.or_false Bool.false_or Bool.and_self

theorem crB_iff {c0 c1 c2 c3 : Int} : crB c0 c1 c2 c3 = true ↔ c0 ≤ c3 ∧ c1 ≤ c3 ∧ c2 ≤ c3 := by simp [crB]
theorem shade_cr {l : List Stp} {t : Int} {C : Co} (S : StopsR l) (h : IsShade l t C) : crB C.c0 C.c1 C.c2 C.c3 = true := by
  rcases h with ⟨s, a1, a2, rfl⟩ | ⟨i, p, s, a1, a2, a3, a4, a5, rfl⟩ | ⟨s, a1, a2, a3, rfl⟩
  · exact (S.ok _ _ a1).2.2
  · have hpt := a3 i p (Nat.le_refl _) a1
    have c1 := crB_iff.1 (S.ok _ _ a1).2.2
    have c2 := crB_iff.1 (S.ok _ _ a2).2.2
    have q0 : 0 ≤ (t - p.a) * 65536 / (s.a - p.a) := Int.ediv_nonneg (by omega) (by omega)
    have q1 : (t - p.a) * 65536 / (s.a - p.a) ≤ 65536 := by
      have : (t - p.a) * 65536 / (s.a - p.a) < 65537 := Int.ediv_lt_of_lt_mul (by omega) (by omega)
      omega
    exact crB_iff.2 ⟨mx_mono c1.1 c2.1 q0 q1, mx_mono c1.2.1 c2.2.1 q0 q1, mx_mono c1.2.2 c2.2.2 q0 q1⟩
  · exact (S.ok _ _ a1).2.2
theorem shade_by {l : List Stp} {t : Int} {C : Co} (S : StopsR l) (hby : ∀ s ∈ l, s.by) (h : IsShade l t C) : C.by := by
  rcases h with ⟨s, a1, a2, rfl⟩ | ⟨i, p, s, a1, a2, a3, a4, a5, rfl⟩ | ⟨s, a1, a2, a3, rfl⟩
  · exact hby _ (List.mem_of_getElem? a1)
  · have hpt := a3 i p (Nat.le_refl _) a1
    have q0 : 0 ≤ (t - p.a) * 65536 / (s.a - p.a) := Int.ediv_nonneg (by omega) (by omega)
    have q1 : (t - p.a) * 65536 / (s.a - p.a) ≤ 65536 := by
      have : (t - p.a) * 65536 / (s.a - p.a) < 65537 := Int.ediv_lt_of_lt_mul (by omega) (by omega)
      omega
    have b1 := hby _ (List.mem_of_getElem? a1)
    have b2 := hby _ (List.mem_of_getElem? a2)
    exact ⟨⟨(mx_bd b1.1.1 b2.1.1 q0 q1).2.2.2, (mx_bd b1.1.2 b2.1.2 q0 q1).2.2.2⟩, (mx_bd b1.2.1 b2.2.1 q0 q1).2.2.2, (mx_bd b1.2.2 b2.2.2 q0 q1).2.2.2⟩
  · exact hby _ (List.mem_of_getElem? a1)
theorem col_ok {p : Pai} {l : List Stp} {x y : Int} {C : Co} (hR : rightV p l = 0) (hp : p.by) (hby : ∀ s ∈ l, s.by) (h : IsCol p l x y C) : crB C.c0 C.c1 C.c2 C.c3 = true ∧ C.by := by
  obtain ⟨hk, h23, hc⟩ := right_kinds hR
  unfold IsCol at h
  split at h
  · obtain ⟨_, hs⟩ := h23 (by omega)
    exact ⟨shade_cr (stopsR hs) h, shade_by (stopsR hs) hby h⟩
  · split at h
    · obtain ⟨_, hs⟩ := h23 (by omega)
      exact ⟨shade_cr (stopsR hs) h, shade_by (stopsR hs) hby h⟩
    · subst h
      exact ⟨hc (by omega), hp⟩
theorem v_lref16 (x y : Int) (m : Mem) (n : Nat) : callF TA 17 [.agg [I x, I y]] m n = some (.agg [I x, I y]) := v_lref x y m n
/-- The end: the program's colour is the one that is told. -/
theorem paint_tail {p : Pai} {l : List Stp} {x y : Int} {C : Co} {n N : Nat} {e : Nat → Reg} {M : Mem} (hR : rightV p l = 0) (hp : p.by) (hby : ∀ s ∈ l, s.by) (hr : RSt M N (.one p.st) l) (hC : IsCol p l x y C)
    (e2 : e 2 = .one (.ptr n 0)) (e3 : e 3 = .one (.ptr (n + 1) 0)) (e6 : e 6 = .one (.ptr (n + 2) 0)) (hN : n + 3 ≤ N) (m0 : M n = some ⟨p.cs, true⟩) (m1 : M (n + 1) = some ⟨[I x, I y], true⟩) (m2 : M (n + 2) = some ⟨[I C.c0, I C.c1, I C.c2, I C.c3], true⟩) :
    RK TA r4_16 e M N (Kt.seq (.seq (.reg r4_17) .ret) (Kt.fin [.tmp 4] (fun r _ _ => r = RB true))) := by
  obtain ⟨D, hD, vA⟩ := v_At (x := x) (y := y) hr.frz hR hby
  obtain rfl := hD.one hC
  obtain ⟨hcr, hb⟩ := col_ok hR hp hby hC
  have vC := v_refColor hb.1.1 hb.1.2 hb.2.1 hb.2.2 (fun _ => none) 0
  have vR := v_CRight D.c0 D.c1 D.c2 D.c3 (fun _ => none) 0
  rw [hcr] at vR
  have n2 := na_0 (show n + 2 < N by omega)
  try simp only [r4_16, r4_17, e2, e3, e6, m0, m1, m2, rd_of m0, rd_of m1, rd_of m2, n2, vA, vC, vR, v_awake16, go_sem, Int.reduceTMod, Int.reduceTDiv, Int.reduceDiv, Int.reduceMod, Int.reduceAdd, Int.reduceSub, Int.reduceMul, Int.reduceNeg, Int.reducePow, Int.reduceEq, ↓reduceIte, Nat.reduceEqDiff, Nat.reduceAdd, Nat.reduceMul, Nat.reduceLeDiff, Nat.reduceSub, Nat.reduceLT, Int.reduceToNat, Int.reduceLT, Int.reduceLE, reduceCtorEq]
  repeat' ((first | refine FK_split (fun h_ => ?_) (fun h_ => ?_) | refine GK_split (fun h_ => ?_) (fun h_ => ?_) | refine ite_both (fun h_ => ?_) (fun h_ => ?_)) <;> (try simp only [decide_eq_true_eq, decide_eq_false_iff_not, Bool.not_true, Bool.not_false, Bool.not_eq_true', Bool.not_eq_false', Bool.not_eq_eq_eq_not, Decidable.not_not] at h_) <;> (try simp only [r4_16, r4_17, e2, e3, e6, m0, m1, m2, rd_of m0, rd_of m1, rd_of m2, n2, vA, vC, vR, v_awake16, h_, go_sem, Int.reduceTMod, Int.reduceTDiv, Int.reduceDiv, Int.reduceMod, Int.reduceAdd, Int.reduceSub, Int.reduceMul, Int.reduceNeg, Int.reducePow, Int.reduceEq, ↓reduceIte, Nat.reduceEqDiff, Nat.reduceAdd, Nat.reduceMul, Nat.reduceLeDiff, Nat.reduceSub, Nat.reduceLT, Int.reduceToNat, Int.reduceLT, Int.reduceLE, reduceCtorEq]))
set_option maxHeartbeats 4000000 in
theorem law4 {p : Pai} {l : List Stp} {x y : Int} {m : Mem} {n : Nat} (hr : RSt m n (.one p.st) l) (hp : p.by) (hby : ∀ s ∈ l, s.by) : Fn TA 4 [.agg p.cs, .agg [I x, I y]] m n (fun r _ _ => r = RB true) := by
  refine Fn_ofK (fn := F4) rfl (by simp [F4]) ?_
  have hlen := hr.len
  obtain ⟨M1, hM1⟩ : ∃ M1, M1 = upd (upd m n (some ⟨p.cs, true⟩)) (n + 1) (some ⟨[I x, I y], true⟩) := ⟨_, rfl⟩
  have hr1 : RSt M1 (n + 2) (.one p.st) l := hr.keep (by omega) (fun id hid => by rw [hM1, upd_ne _ _ (by omega), upd_ne _ _ (by omega)])
  by_cases g : 60 < (l.length : Int)
  · skip
    try simp only [r4_0, r4_1, r4_2, r4_3, r4_4, r4_5, r4_6, r4_7, r4_8, r4_9, r4_10, r4_11, r4_12, r4_13, r4_14, r4_15, r4_16, r4_17, c4, F4, hlen, g, v_awake16, go_sem, Int.reduceTMod, Int.reduceTDiv, Int.reduceDiv, Int.reduceMod, Int.reduceAdd, Int.reduceSub, Int.reduceMul, Int.reduceNeg, Int.reducePow, Int.reduceEq, ↓reduceIte, Nat.reduceEqDiff, Nat.reduceAdd, Nat.reduceMul, Nat.reduceLeDiff, Nat.reduceSub, Nat.reduceLT, Int.reduceToNat, Int.reduceLT, Int.reduceLE, reduceCtorEq]
    repeat' ((first | refine FK_split (fun h_ => ?_) (fun h_ => ?_) | refine GK_split (fun h_ => ?_) (fun h_ => ?_) | refine ite_both (fun h_ => ?_) (fun h_ => ?_)) <;> (try simp only [decide_eq_true_eq, decide_eq_false_iff_not, Bool.not_true, Bool.not_false, Bool.not_eq_true', Bool.not_eq_false', Bool.not_eq_eq_eq_not, Decidable.not_not] at h_) <;> (try simp only [r4_0, r4_1, r4_2, r4_3, r4_4, r4_5, r4_6, r4_7, r4_8, r4_9, r4_10, r4_11, r4_12, r4_13, r4_14, r4_15, r4_16, r4_17, c4, F4, hlen, g, v_awake16, h_, go_sem, Int.reduceTMod, Int.reduceTDiv, Int.reduceDiv, Int.reduceMod, Int.reduceAdd, Int.reduceSub, Int.reduceMul, Int.reduceNeg, Int.reducePow, Int.reduceEq, ↓reduceIte, Nat.reduceEqDiff, Nat.reduceAdd, Nat.reduceMul, Nat.reduceLeDiff, Nat.reduceSub, Nat.reduceLT, Int.reduceToNat, Int.reduceLT, Int.reduceLE, reduceCtorEq]))
  have vR := v_right p l (frz M1) (n + 2) hr1.frz hby hp (by omega)
  have vP := v_PCheck p l (frz M1) (n + 2) hr1.frz (by omega)
  have vE := v_PEqual p p l l (frz M1) (n + 2) hr1.frz hr1.frz (by omega)
  rw [paiB_self] at vE
  by_cases hR : rightV p l = 0
  case neg =>
    rw [hM1] at vR vP vE
    try simp only [r4_0, r4_1, r4_2, r4_3, r4_4, r4_5, r4_6, r4_7, r4_8, r4_9, r4_10, r4_11, r4_12, r4_13, r4_14, r4_15, r4_16, r4_17, c4, F4, hlen, g, vR, vP, vE, hR, v_awake16, go_sem, Int.reduceTMod, Int.reduceTDiv, Int.reduceDiv, Int.reduceMod, Int.reduceAdd, Int.reduceSub, Int.reduceMul, Int.reduceNeg, Int.reducePow, Int.reduceEq, ↓reduceIte, Nat.reduceEqDiff, Nat.reduceAdd, Nat.reduceMul, Nat.reduceLeDiff, Nat.reduceSub, Nat.reduceLT, Int.reduceToNat, Int.reduceLT, Int.reduceLE, reduceCtorEq]
    repeat' ((first | refine FK_split (fun h_ => ?_) (fun h_ => ?_) | refine GK_split (fun h_ => ?_) (fun h_ => ?_) | refine ite_both (fun h_ => ?_) (fun h_ => ?_)) <;> (try simp only [decide_eq_true_eq, decide_eq_false_iff_not, Bool.not_true, Bool.not_false, Bool.not_eq_true', Bool.not_eq_false', Bool.not_eq_eq_eq_not, Decidable.not_not] at h_) <;> (try simp only [r4_0, r4_1, r4_2, r4_3, r4_4, r4_5, r4_6, r4_7, r4_8, r4_9, r4_10, r4_11, r4_12, r4_13, r4_14, r4_15, r4_16, r4_17, c4, F4, hlen, g, vR, vP, vE, hR, v_awake16, h_, go_sem, Int.reduceTMod, Int.reduceTDiv, Int.reduceDiv, Int.reduceMod, Int.reduceAdd, Int.reduceSub, Int.reduceMul, Int.reduceNeg, Int.reducePow, Int.reduceEq, ↓reduceIte, Nat.reduceEqDiff, Nat.reduceAdd, Nat.reduceMul, Nat.reduceLeDiff, Nat.reduceSub, Nat.reduceLT, Int.reduceToNat, Int.reduceLT, Int.reduceLE, reduceCtorEq]))
  obtain ⟨hk, h23, hc⟩ := right_kinds hR
  rw [hM1] at vR vP vE
  have body : ∀ (e : Nat → Reg) (M : Mem), e 2 = .one (.ptr n 0) → e 3 = .one (.ptr (n + 1) 0) → M n = some ⟨p.cs, true⟩ → M (n + 1) = some ⟨[I x, I y], true⟩ → (∀ j, j < n → M j = m j) →
      RK TA r4_8 e M (n + 2) (Kt.seq (.seq (.seq (.reg r4_9) (.block 0 (.seq (.reg r4_10) (.cond (.t 31) (.reg r4_11) (.seq (.reg r4_12) (.cond (.t 36) (.reg r4_13) (.seq (.reg r4_14) (.cond (.t 51) (.reg r4_15) .skip)))))))) (.seq (.reg r4_16) (.seq (.reg r4_17) .ret))) (Kt.fin [.tmp 4] (fun r _ _ => r = RB true))) := by
    intro e M e2 e3 m0 m1 hold
    have hrM : RSt M (n + 2) (.one p.st) l := hr.keep (by omega) hold
    have tail : ∀ (e' : Nat → Reg) (M' : Mem) (N' : Nat) (C : Co), IsCol p l x y C → RSt M' N' (.one p.st) l → e' 2 = .one (.ptr n 0) → e' 3 = .one (.ptr (n + 1) 0) → e' 6 = .one (.ptr (n + 2) 0) → n + 3 ≤ N' → M' n = some ⟨p.cs, true⟩ → M' (n + 1) = some ⟨[I x, I y], true⟩ → M' (n + 2) = some ⟨[I C.c0, I C.c1, I C.c2, I C.c3], true⟩ →
        RK TA r4_16 e' M' N' (Kt.seq (.seq (.reg r4_17) .ret) (Kt.fin [.tmp 4] (fun r _ _ => r = RB true))) := fun e' M' N' C hC hr' h2 h3 h6 hN h0 h1 hh2 => paint_tail hR hp hby hr' hC h2 h3 h6 hN h0 h1 hh2
    have keep : ∀ (M' : Mem) (N' : Nat), n + 2 ≤ N' → (∀ j, j < n + 2 → M' j = M j) → RSt M' N' (.one p.st) l := fun M' N' h1 h2 => hrM.keep h1 h2
    by_cases k1 : p.k = 1
    · have vC := v_refColor hp.1.1 hp.1.2 hp.2.1 hp.2.2 (fun _ => none) 0
      try simp only [r4_8, r4_9, r4_10, r4_11, e2, e3, m0, rd_of m0, k1, vC, go_sem, Int.reduceTMod, Int.reduceTDiv, Int.reduceDiv, Int.reduceMod, Int.reduceAdd, Int.reduceSub, Int.reduceMul, Int.reduceNeg, Int.reducePow, Int.reduceEq, ↓reduceIte, Nat.reduceEqDiff, Nat.reduceAdd, Nat.reduceMul, Nat.reduceLeDiff, Nat.reduceSub, Nat.reduceLT, Int.reduceToNat, Int.reduceLT, Int.reduceLE, reduceCtorEq]
      repeat' ((first | refine FK_split (fun h_ => ?_) (fun h_ => ?_) | refine GK_split (fun h_ => ?_) (fun h_ => ?_) | refine ite_both (fun h_ => ?_) (fun h_ => ?_)) <;> (try simp only [decide_eq_true_eq, decide_eq_false_iff_not, Bool.not_true, Bool.not_false, Bool.not_eq_true', Bool.not_eq_false', Bool.not_eq_eq_eq_not, Decidable.not_not] at h_) <;> (try simp only [r4_8, r4_9, r4_10, r4_11, e2, e3, m0, rd_of m0, k1, vC, h_, go_sem, Int.reduceTMod, Int.reduceTDiv, Int.reduceDiv, Int.reduceMod, Int.reduceAdd, Int.reduceSub, Int.reduceMul, Int.reduceNeg, Int.reducePow, Int.reduceEq, ↓reduceIte, Nat.reduceEqDiff, Nat.reduceAdd, Nat.reduceMul, Nat.reduceLeDiff, Nat.reduceSub, Nat.reduceLT, Int.reduceToNat, Int.reduceLT, Int.reduceLE, reduceCtorEq]))
      refine tail _ _ _ p.co ?_ (keep _ _ (by omega) (fun j hj => ?_)) ?_ ?_ ?_ ?_ ?_ ?_ ?_
      · unfold IsCol; rw [if_neg (by omega), if_neg (by omega)]
      · simp only [na_0 hj, go_sem, Int.reduceTMod, Int.reduceTDiv, Int.reduceDiv, Int.reduceMod, Int.reduceAdd, Int.reduceSub, Int.reduceMul, Int.reduceNeg, Int.reducePow, Int.reduceEq, ↓reduceIte, Nat.reduceEqDiff, Nat.reduceAdd, Nat.reduceMul, Nat.reduceLeDiff, Nat.reduceSub, Nat.reduceLT, Int.reduceToNat, Int.reduceLT, Int.reduceLE, reduceCtorEq]
      · simp only [e2, go_sem, Int.reduceTMod, Int.reduceTDiv, Int.reduceDiv, Int.reduceMod, Int.reduceAdd, Int.reduceSub, Int.reduceMul, Int.reduceNeg, Int.reducePow, Int.reduceEq, ↓reduceIte, Nat.reduceEqDiff, Nat.reduceAdd, Nat.reduceMul, Nat.reduceLeDiff, Nat.reduceSub, Nat.reduceLT, Int.reduceToNat, Int.reduceLT, Int.reduceLE, reduceCtorEq]
      · simp only [e3, go_sem, Int.reduceTMod, Int.reduceTDiv, Int.reduceDiv, Int.reduceMod, Int.reduceAdd, Int.reduceSub, Int.reduceMul, Int.reduceNeg, Int.reducePow, Int.reduceEq, ↓reduceIte, Nat.reduceEqDiff, Nat.reduceAdd, Nat.reduceMul, Nat.reduceLeDiff, Nat.reduceSub, Nat.reduceLT, Int.reduceToNat, Int.reduceLT, Int.reduceLE, reduceCtorEq]
      · simp only [go_sem, Int.reduceTMod, Int.reduceTDiv, Int.reduceDiv, Int.reduceMod, Int.reduceAdd, Int.reduceSub, Int.reduceMul, Int.reduceNeg, Int.reducePow, Int.reduceEq, ↓reduceIte, Nat.reduceEqDiff, Nat.reduceAdd, Nat.reduceMul, Nat.reduceLeDiff, Nat.reduceSub, Nat.reduceLT, Int.reduceToNat, Int.reduceLT, Int.reduceLE, reduceCtorEq]
      · omega
      · simp only [nadd, na_eq, m0, go_sem, Int.reduceTMod, Int.reduceTDiv, Int.reduceDiv, Int.reduceMod, Int.reduceAdd, Int.reduceSub, Int.reduceMul, Int.reduceNeg, Int.reducePow, Int.reduceEq, ↓reduceIte, Nat.reduceEqDiff, Nat.reduceAdd, Nat.reduceMul, Nat.reduceLeDiff, Nat.reduceSub, Nat.reduceLT, Int.reduceToNat, Int.reduceLT, Int.reduceLE, reduceCtorEq]
      · simp only [nadd, na_eq, m1, go_sem, Int.reduceTMod, Int.reduceTDiv, Int.reduceDiv, Int.reduceMod, Int.reduceAdd, Int.reduceSub, Int.reduceMul, Int.reduceNeg, Int.reducePow, Int.reduceEq, ↓reduceIte, Nat.reduceEqDiff, Nat.reduceAdd, Nat.reduceMul, Nat.reduceLeDiff, Nat.reduceSub, Nat.reduceLT, Int.reduceToNat, Int.reduceLT, Int.reduceLE, reduceCtorEq]
      · simp only [nadd, na_eq, Pai.co, go_sem, Int.reduceTMod, Int.reduceTDiv, Int.reduceDiv, Int.reduceMod, Int.reduceAdd, Int.reduceSub, Int.reduceMul, Int.reduceNeg, Int.reducePow, Int.reduceEq, ↓reduceIte, Nat.reduceEqDiff, Nat.reduceAdd, Nat.reduceMul, Nat.reduceLeDiff, Nat.reduceSub, Nat.reduceLT, Int.reduceToNat, Int.reduceLT, Int.reduceLE, reduceCtorEq]
    by_cases k2 : p.k = 2
    · obtain ⟨hn, hs⟩ := h23 (by omega)
      have r1 := v_lref16 p.fx p.fy (fun _ => none) 0
      have r2 := v_lref16 p.tx p.ty (fun _ => none) 0
      have r3 := v_lref16 x y (fun _ => none) 0
      have vA := v_Along p.fx p.fy p.tx p.ty x y hn (fun _ => none) 0
      try simp only [r4_8, r4_9, r4_10, r4_12, r4_13, e2, e3, m0, rd_of m0, k1, k2, go_sem, Int.reduceTMod, Int.reduceTDiv, Int.reduceDiv, Int.reduceMod, Int.reduceAdd, Int.reduceSub, Int.reduceMul, Int.reduceNeg, Int.reducePow, Int.reduceEq, ↓reduceIte, Nat.reduceEqDiff, Nat.reduceAdd, Nat.reduceMul, Nat.reduceLeDiff, Nat.reduceSub, Nat.reduceLT, Int.reduceToNat, Int.reduceLT, Int.reduceLE, reduceCtorEq]
      repeat' ((first | refine FK_split (fun h_ => ?_) (fun h_ => ?_) | refine GK_split (fun h_ => ?_) (fun h_ => ?_) | refine ite_both (fun h_ => ?_) (fun h_ => ?_)) <;> (try simp only [decide_eq_true_eq, decide_eq_false_iff_not, Bool.not_true, Bool.not_false, Bool.not_eq_true', Bool.not_eq_false', Bool.not_eq_eq_eq_not, Decidable.not_not] at h_) <;> (try simp only [r4_8, r4_9, r4_10, r4_12, r4_13, e2, e3, m0, rd_of m0, k1, k2, h_, go_sem, Int.reduceTMod, Int.reduceTDiv, Int.reduceDiv, Int.reduceMod, Int.reduceAdd, Int.reduceSub, Int.reduceMul, Int.reduceNeg, Int.reducePow, Int.reduceEq, ↓reduceIte, Nat.reduceEqDiff, Nat.reduceAdd, Nat.reduceMul, Nat.reduceLeDiff, Nat.reduceSub, Nat.reduceLT, Int.reduceToNat, Int.reduceLT, Int.reduceLE, reduceCtorEq]))
      refine RK_callk ?_
      show Fn TA _ [.one p.st] _ _ _
      refine (v_refStops (.one p.st) l _ _ (keep (upd (upd M (n + 2) (some ⟨[I 0, I 0, I 0, I 0], true⟩)) (n + 2) (some ⟨[I 0, I 0, I 0, I 0], true⟩)) (n + 3) (by omega) (fun j hj => by rw [upd_ne _ _ (by omega), upd_ne _ _ (by omega)])).frz hby (by omega)).mono ?_
      rintro r5 m5 n5 ⟨ho5, hn5⟩
      rw [show max (n + 3) n5 = n5 by omega]
      obtain ⟨M5, hM5⟩ : ∃ M5, M5 = unfrz (upd (upd M (n + 2) (some ⟨[I 0, I 0, I 0, I 0], true⟩)) (n + 2) (some ⟨[I 0, I 0, I 0, I 0], true⟩)) (n + 3) m5 := ⟨_, rfl⟩
      rw [← hM5]
      have hf5 : ∀ j, j < n + 2 → M5 j = M j := fun j hj => by rw [hM5, unfrz_at, if_pos (by omega), upd_ne _ _ (by omega), upd_ne _ _ (by omega)]
      have m2' : M5 (n + 2) = some ⟨[I 0, I 0, I 0, I 0], true⟩ := by rw [hM5, unfrz_at, if_pos (by omega), upd_same]
      have m0' : M5 n = some ⟨p.cs, true⟩ := by rw [hf5 n (by omega)]; exact m0
      have m1' : M5 (n + 1) = some ⟨[I x, I y], true⟩ := by rw [hf5 (n + 1) (by omega)]; exact m1
      have hrr : RRi M5 n5 r5 l := by rw [hM5]; exact (ho5.rl ri5).keep' (Nat.le_refl _) (fun id hid => by rw [unfrz_at, if_neg (by have := ho5.ge hid; omega)])
      clear hM5
      obtain ⟨C, hC, vS⟩ := v_rShade (t := alongV p.fx p.fy p.tx p.ty (clipV x) (clipV y)) hrr.frz hs hby
      try simp only [r4_13, e2, e3, m0', m1', m2', rd_of m0', rd_of m1', rd_of m2', r1, r2, r3, vA, vS, go_sem, Int.reduceTMod, Int.reduceTDiv, Int.reduceDiv, Int.reduceMod, Int.reduceAdd, Int.reduceSub, Int.reduceMul, Int.reduceNeg, Int.reducePow, Int.reduceEq, ↓reduceIte, Nat.reduceEqDiff, Nat.reduceAdd, Nat.reduceMul, Nat.reduceLeDiff, Nat.reduceSub, Nat.reduceLT, Int.reduceToNat, Int.reduceLT, Int.reduceLE, reduceCtorEq]
      repeat' ((first | refine FK_split (fun h_ => ?_) (fun h_ => ?_) | refine GK_split (fun h_ => ?_) (fun h_ => ?_) | refine ite_both (fun h_ => ?_) (fun h_ => ?_)) <;> (try simp only [decide_eq_true_eq, decide_eq_false_iff_not, Bool.not_true, Bool.not_false, Bool.not_eq_true', Bool.not_eq_false', Bool.not_eq_eq_eq_not, Decidable.not_not] at h_) <;> (try simp only [r4_13, e2, e3, m0', m1', m2', rd_of m0', rd_of m1', rd_of m2', r1, r2, r3, vA, vS, h_, go_sem, Int.reduceTMod, Int.reduceTDiv, Int.reduceDiv, Int.reduceMod, Int.reduceAdd, Int.reduceSub, Int.reduceMul, Int.reduceNeg, Int.reducePow, Int.reduceEq, ↓reduceIte, Nat.reduceEqDiff, Nat.reduceAdd, Nat.reduceMul, Nat.reduceLeDiff, Nat.reduceSub, Nat.reduceLT, Int.reduceToNat, Int.reduceLT, Int.reduceLE, reduceCtorEq]))
      refine tail _ _ _ C ?_ (keep _ _ (by omega) (fun j hj => ?_)) ?_ ?_ ?_ ?_ ?_ ?_ ?_
      · unfold IsCol; rw [if_pos k2]; exact hC
      · simp only [na_0 hj, go_sem, Int.reduceTMod, Int.reduceTDiv, Int.reduceDiv, Int.reduceMod, Int.reduceAdd, Int.reduceSub, Int.reduceMul, Int.reduceNeg, Int.reducePow, Int.reduceEq, ↓reduceIte, Nat.reduceEqDiff, Nat.reduceAdd, Nat.reduceMul, Nat.reduceLeDiff, Nat.reduceSub, Nat.reduceLT, Int.reduceToNat, Int.reduceLT, Int.reduceLE, reduceCtorEq]
        exact hf5 j hj
      · simp only [e2, go_sem, Int.reduceTMod, Int.reduceTDiv, Int.reduceDiv, Int.reduceMod, Int.reduceAdd, Int.reduceSub, Int.reduceMul, Int.reduceNeg, Int.reducePow, Int.reduceEq, ↓reduceIte, Nat.reduceEqDiff, Nat.reduceAdd, Nat.reduceMul, Nat.reduceLeDiff, Nat.reduceSub, Nat.reduceLT, Int.reduceToNat, Int.reduceLT, Int.reduceLE, reduceCtorEq]
      · simp only [e3, go_sem, Int.reduceTMod, Int.reduceTDiv, Int.reduceDiv, Int.reduceMod, Int.reduceAdd, Int.reduceSub, Int.reduceMul, Int.reduceNeg, Int.reducePow, Int.reduceEq, ↓reduceIte, Nat.reduceEqDiff, Nat.reduceAdd, Nat.reduceMul, Nat.reduceLeDiff, Nat.reduceSub, Nat.reduceLT, Int.reduceToNat, Int.reduceLT, Int.reduceLE, reduceCtorEq]
      · simp only [go_sem, Int.reduceTMod, Int.reduceTDiv, Int.reduceDiv, Int.reduceMod, Int.reduceAdd, Int.reduceSub, Int.reduceMul, Int.reduceNeg, Int.reducePow, Int.reduceEq, ↓reduceIte, Nat.reduceEqDiff, Nat.reduceAdd, Nat.reduceMul, Nat.reduceLeDiff, Nat.reduceSub, Nat.reduceLT, Int.reduceToNat, Int.reduceLT, Int.reduceLE, reduceCtorEq]
      · omega
      · simp only [nadd, na_eq, m0', go_sem, Int.reduceTMod, Int.reduceTDiv, Int.reduceDiv, Int.reduceMod, Int.reduceAdd, Int.reduceSub, Int.reduceMul, Int.reduceNeg, Int.reducePow, Int.reduceEq, ↓reduceIte, Nat.reduceEqDiff, Nat.reduceAdd, Nat.reduceMul, Nat.reduceLeDiff, Nat.reduceSub, Nat.reduceLT, Int.reduceToNat, Int.reduceLT, Int.reduceLE, reduceCtorEq]
      · simp only [nadd, na_eq, m1', go_sem, Int.reduceTMod, Int.reduceTDiv, Int.reduceDiv, Int.reduceMod, Int.reduceAdd, Int.reduceSub, Int.reduceMul, Int.reduceNeg, Int.reducePow, Int.reduceEq, ↓reduceIte, Nat.reduceEqDiff, Nat.reduceAdd, Nat.reduceMul, Nat.reduceLeDiff, Nat.reduceSub, Nat.reduceLT, Int.reduceToNat, Int.reduceLT, Int.reduceLE, reduceCtorEq]
      · simp only [nadd, na_eq, go_sem, Int.reduceTMod, Int.reduceTDiv, Int.reduceDiv, Int.reduceMod, Int.reduceAdd, Int.reduceSub, Int.reduceMul, Int.reduceNeg, Int.reducePow, Int.reduceEq, ↓reduceIte, Nat.reduceEqDiff, Nat.reduceAdd, Nat.reduceMul, Nat.reduceLeDiff, Nat.reduceSub, Nat.reduceLT, Int.reduceToNat, Int.reduceLT, Int.reduceLE, reduceCtorEq]
    by_cases k3 : p.k = 3
    · obtain ⟨hn, hs⟩ := h23 (by omega)
      have r1 := v_lref16 p.fx p.fy (fun _ => none) 0
      have r2 := v_lref16 p.tx p.ty (fun _ => none) 0
      have r3 := v_lref16 x y (fun _ => none) 0
      have vA := v_rRound p.fx p.fy p.tx p.ty x y hn (fun _ => none) 0
      try simp only [r4_8, r4_9, r4_10, r4_12, r4_14, r4_15, e2, e3, m0, rd_of m0, k1, k2, k3, go_sem, Int.reduceTMod, Int.reduceTDiv, Int.reduceDiv, Int.reduceMod, Int.reduceAdd, Int.reduceSub, Int.reduceMul, Int.reduceNeg, Int.reducePow, Int.reduceEq, ↓reduceIte, Nat.reduceEqDiff, Nat.reduceAdd, Nat.reduceMul, Nat.reduceLeDiff, Nat.reduceSub, Nat.reduceLT, Int.reduceToNat, Int.reduceLT, Int.reduceLE, reduceCtorEq]
      repeat' ((first | refine FK_split (fun h_ => ?_) (fun h_ => ?_) | refine GK_split (fun h_ => ?_) (fun h_ => ?_) | refine ite_both (fun h_ => ?_) (fun h_ => ?_)) <;> (try simp only [decide_eq_true_eq, decide_eq_false_iff_not, Bool.not_true, Bool.not_false, Bool.not_eq_true', Bool.not_eq_false', Bool.not_eq_eq_eq_not, Decidable.not_not] at h_) <;> (try simp only [r4_8, r4_9, r4_10, r4_12, r4_14, r4_15, e2, e3, m0, rd_of m0, k1, k2, k3, h_, go_sem, Int.reduceTMod, Int.reduceTDiv, Int.reduceDiv, Int.reduceMod, Int.reduceAdd, Int.reduceSub, Int.reduceMul, Int.reduceNeg, Int.reducePow, Int.reduceEq, ↓reduceIte, Nat.reduceEqDiff, Nat.reduceAdd, Nat.reduceMul, Nat.reduceLeDiff, Nat.reduceSub, Nat.reduceLT, Int.reduceToNat, Int.reduceLT, Int.reduceLE, reduceCtorEq]))
      refine RK_callk ?_
      show Fn TA _ [.one p.st] _ _ _
      refine (v_refStops (.one p.st) l _ _ (keep (upd (upd M (n + 2) (some ⟨[I 0, I 0, I 0, I 0], true⟩)) (n + 2) (some ⟨[I 0, I 0, I 0, I 0], true⟩)) (n + 3) (by omega) (fun j hj => by rw [upd_ne _ _ (by omega), upd_ne _ _ (by omega)])).frz hby (by omega)).mono ?_
      rintro r5 m5 n5 ⟨ho5, hn5⟩
      rw [show max (n + 3) n5 = n5 by omega]
      obtain ⟨M5, hM5⟩ : ∃ M5, M5 = unfrz (upd (upd M (n + 2) (some ⟨[I 0, I 0, I 0, I 0], true⟩)) (n + 2) (some ⟨[I 0, I 0, I 0, I 0], true⟩)) (n + 3) m5 := ⟨_, rfl⟩
      rw [← hM5]
      have hf5 : ∀ j, j < n + 2 → M5 j = M j := fun j hj => by rw [hM5, unfrz_at, if_pos (by omega), upd_ne _ _ (by omega), upd_ne _ _ (by omega)]
      have m2' : M5 (n + 2) = some ⟨[I 0, I 0, I 0, I 0], true⟩ := by rw [hM5, unfrz_at, if_pos (by omega), upd_same]
      have m0' : M5 n = some ⟨p.cs, true⟩ := by rw [hf5 n (by omega)]; exact m0
      have m1' : M5 (n + 1) = some ⟨[I x, I y], true⟩ := by rw [hf5 (n + 1) (by omega)]; exact m1
      have hrr : RRi M5 n5 r5 l := by rw [hM5]; exact (ho5.rl ri5).keep' (Nat.le_refl _) (fun id hid => by rw [unfrz_at, if_neg (by have := ho5.ge hid; omega)])
      clear hM5
      obtain ⟨C, hC, vS⟩ := v_rShade (t := roundV p.fx p.fy p.tx p.ty (clipV x) (clipV y)) hrr.frz hs hby
      try simp only [r4_15, e2, e3, m0', m1', m2', rd_of m0', rd_of m1', rd_of m2', r1, r2, r3, vA, vS, go_sem, Int.reduceTMod, Int.reduceTDiv, Int.reduceDiv, Int.reduceMod, Int.reduceAdd, Int.reduceSub, Int.reduceMul, Int.reduceNeg, Int.reducePow, Int.reduceEq, ↓reduceIte, Nat.reduceEqDiff, Nat.reduceAdd, Nat.reduceMul, Nat.reduceLeDiff, Nat.reduceSub, Nat.reduceLT, Int.reduceToNat, Int.reduceLT, Int.reduceLE, reduceCtorEq]
      repeat' ((first | refine FK_split (fun h_ => ?_) (fun h_ => ?_) | refine GK_split (fun h_ => ?_) (fun h_ => ?_) | refine ite_both (fun h_ => ?_) (fun h_ => ?_)) <;> (try simp only [decide_eq_true_eq, decide_eq_false_iff_not, Bool.not_true, Bool.not_false, Bool.not_eq_true', Bool.not_eq_false', Bool.not_eq_eq_eq_not, Decidable.not_not] at h_) <;> (try simp only [r4_15, e2, e3, m0', m1', m2', rd_of m0', rd_of m1', rd_of m2', r1, r2, r3, vA, vS, h_, go_sem, Int.reduceTMod, Int.reduceTDiv, Int.reduceDiv, Int.reduceMod, Int.reduceAdd, Int.reduceSub, Int.reduceMul, Int.reduceNeg, Int.reducePow, Int.reduceEq, ↓reduceIte, Nat.reduceEqDiff, Nat.reduceAdd, Nat.reduceMul, Nat.reduceLeDiff, Nat.reduceSub, Nat.reduceLT, Int.reduceToNat, Int.reduceLT, Int.reduceLE, reduceCtorEq]))
      refine tail _ _ _ C ?_ (keep _ _ (by omega) (fun j hj => ?_)) ?_ ?_ ?_ ?_ ?_ ?_ ?_
      · unfold IsCol; rw [if_neg k2, if_pos k3]; exact hC
      · simp only [na_0 hj, go_sem, Int.reduceTMod, Int.reduceTDiv, Int.reduceDiv, Int.reduceMod, Int.reduceAdd, Int.reduceSub, Int.reduceMul, Int.reduceNeg, Int.reducePow, Int.reduceEq, ↓reduceIte, Nat.reduceEqDiff, Nat.reduceAdd, Nat.reduceMul, Nat.reduceLeDiff, Nat.reduceSub, Nat.reduceLT, Int.reduceToNat, Int.reduceLT, Int.reduceLE, reduceCtorEq]
        exact hf5 j hj
      · simp only [e2, go_sem, Int.reduceTMod, Int.reduceTDiv, Int.reduceDiv, Int.reduceMod, Int.reduceAdd, Int.reduceSub, Int.reduceMul, Int.reduceNeg, Int.reducePow, Int.reduceEq, ↓reduceIte, Nat.reduceEqDiff, Nat.reduceAdd, Nat.reduceMul, Nat.reduceLeDiff, Nat.reduceSub, Nat.reduceLT, Int.reduceToNat, Int.reduceLT, Int.reduceLE, reduceCtorEq]
      · simp only [e3, go_sem, Int.reduceTMod, Int.reduceTDiv, Int.reduceDiv, Int.reduceMod, Int.reduceAdd, Int.reduceSub, Int.reduceMul, Int.reduceNeg, Int.reducePow, Int.reduceEq, ↓reduceIte, Nat.reduceEqDiff, Nat.reduceAdd, Nat.reduceMul, Nat.reduceLeDiff, Nat.reduceSub, Nat.reduceLT, Int.reduceToNat, Int.reduceLT, Int.reduceLE, reduceCtorEq]
      · simp only [go_sem, Int.reduceTMod, Int.reduceTDiv, Int.reduceDiv, Int.reduceMod, Int.reduceAdd, Int.reduceSub, Int.reduceMul, Int.reduceNeg, Int.reducePow, Int.reduceEq, ↓reduceIte, Nat.reduceEqDiff, Nat.reduceAdd, Nat.reduceMul, Nat.reduceLeDiff, Nat.reduceSub, Nat.reduceLT, Int.reduceToNat, Int.reduceLT, Int.reduceLE, reduceCtorEq]
      · omega
      · simp only [nadd, na_eq, m0', go_sem, Int.reduceTMod, Int.reduceTDiv, Int.reduceDiv, Int.reduceMod, Int.reduceAdd, Int.reduceSub, Int.reduceMul, Int.reduceNeg, Int.reducePow, Int.reduceEq, ↓reduceIte, Nat.reduceEqDiff, Nat.reduceAdd, Nat.reduceMul, Nat.reduceLeDiff, Nat.reduceSub, Nat.reduceLT, Int.reduceToNat, Int.reduceLT, Int.reduceLE, reduceCtorEq]
      · simp only [nadd, na_eq, m1', go_sem, Int.reduceTMod, Int.reduceTDiv, Int.reduceDiv, Int.reduceMod, Int.reduceAdd, Int.reduceSub, Int.reduceMul, Int.reduceNeg, Int.reducePow, Int.reduceEq, ↓reduceIte, Nat.reduceEqDiff, Nat.reduceAdd, Nat.reduceMul, Nat.reduceLeDiff, Nat.reduceSub, Nat.reduceLT, Int.reduceToNat, Int.reduceLT, Int.reduceLE, reduceCtorEq]
      · simp only [nadd, na_eq, go_sem, Int.reduceTMod, Int.reduceTDiv, Int.reduceDiv, Int.reduceMod, Int.reduceAdd, Int.reduceSub, Int.reduceMul, Int.reduceNeg, Int.reducePow, Int.reduceEq, ↓reduceIte, Nat.reduceEqDiff, Nat.reduceAdd, Nat.reduceMul, Nat.reduceLeDiff, Nat.reduceSub, Nat.reduceLT, Int.reduceToNat, Int.reduceLT, Int.reduceLE, reduceCtorEq]
    have k0 : p.k = 0 := by omega
    have hz : p.co = ⟨0, 0, 0, 0⟩ := by
      unfold rightV at hR
      rw [if_neg (by omega), if_pos k0] at hR
      split at hR
      · rename_i h3
        simp only [Bool.and_eq_true, Pai.cz, beq_iff_eq] at h3
        unfold Pai.co
        rw [h3.2.1, h3.2.2.1, h3.2.2.2.1, h3.2.2.2.2]
      · cases hR
    try simp only [r4_8, r4_9, r4_10, r4_12, r4_14, e2, e3, m0, rd_of m0, k1, k2, k3, go_sem, Int.reduceTMod, Int.reduceTDiv, Int.reduceDiv, Int.reduceMod, Int.reduceAdd, Int.reduceSub, Int.reduceMul, Int.reduceNeg, Int.reducePow, Int.reduceEq, ↓reduceIte, Nat.reduceEqDiff, Nat.reduceAdd, Nat.reduceMul, Nat.reduceLeDiff, Nat.reduceSub, Nat.reduceLT, Int.reduceToNat, Int.reduceLT, Int.reduceLE, reduceCtorEq]
    repeat' ((first | refine FK_split (fun h_ => ?_) (fun h_ => ?_) | refine GK_split (fun h_ => ?_) (fun h_ => ?_) | refine ite_both (fun h_ => ?_) (fun h_ => ?_)) <;> (try simp only [decide_eq_true_eq, decide_eq_false_iff_not, Bool.not_true, Bool.not_false, Bool.not_eq_true', Bool.not_eq_false', Bool.not_eq_eq_eq_not, Decidable.not_not] at h_) <;> (try simp only [r4_8, r4_9, r4_10, r4_12, r4_14, e2, e3, m0, rd_of m0, k1, k2, k3, h_, go_sem, Int.reduceTMod, Int.reduceTDiv, Int.reduceDiv, Int.reduceMod, Int.reduceAdd, Int.reduceSub, Int.reduceMul, Int.reduceNeg, Int.reducePow, Int.reduceEq, ↓reduceIte, Nat.reduceEqDiff, Nat.reduceAdd, Nat.reduceMul, Nat.reduceLeDiff, Nat.reduceSub, Nat.reduceLT, Int.reduceToNat, Int.reduceLT, Int.reduceLE, reduceCtorEq]))
    refine tail _ _ _ p.co ?_ (keep _ _ (by omega) (fun j hj => ?_)) ?_ ?_ ?_ ?_ ?_ ?_ ?_
    · unfold IsCol; rw [if_neg k2, if_neg k3]
    · simp only [na_0 hj, go_sem, Int.reduceTMod, Int.reduceTDiv, Int.reduceDiv, Int.reduceMod, Int.reduceAdd, Int.reduceSub, Int.reduceMul, Int.reduceNeg, Int.reducePow, Int.reduceEq, ↓reduceIte, Nat.reduceEqDiff, Nat.reduceAdd, Nat.reduceMul, Nat.reduceLeDiff, Nat.reduceSub, Nat.reduceLT, Int.reduceToNat, Int.reduceLT, Int.reduceLE, reduceCtorEq]
    · simp only [e2, go_sem, Int.reduceTMod, Int.reduceTDiv, Int.reduceDiv, Int.reduceMod, Int.reduceAdd, Int.reduceSub, Int.reduceMul, Int.reduceNeg, Int.reducePow, Int.reduceEq, ↓reduceIte, Nat.reduceEqDiff, Nat.reduceAdd, Nat.reduceMul, Nat.reduceLeDiff, Nat.reduceSub, Nat.reduceLT, Int.reduceToNat, Int.reduceLT, Int.reduceLE, reduceCtorEq]
    · simp only [e3, go_sem, Int.reduceTMod, Int.reduceTDiv, Int.reduceDiv, Int.reduceMod, Int.reduceAdd, Int.reduceSub, Int.reduceMul, Int.reduceNeg, Int.reducePow, Int.reduceEq, ↓reduceIte, Nat.reduceEqDiff, Nat.reduceAdd, Nat.reduceMul, Nat.reduceLeDiff, Nat.reduceSub, Nat.reduceLT, Int.reduceToNat, Int.reduceLT, Int.reduceLE, reduceCtorEq]
    · simp only [go_sem, Int.reduceTMod, Int.reduceTDiv, Int.reduceDiv, Int.reduceMod, Int.reduceAdd, Int.reduceSub, Int.reduceMul, Int.reduceNeg, Int.reducePow, Int.reduceEq, ↓reduceIte, Nat.reduceEqDiff, Nat.reduceAdd, Nat.reduceMul, Nat.reduceLeDiff, Nat.reduceSub, Nat.reduceLT, Int.reduceToNat, Int.reduceLT, Int.reduceLE, reduceCtorEq]
    · omega
    · simp only [nadd, na_eq, m0, go_sem, Int.reduceTMod, Int.reduceTDiv, Int.reduceDiv, Int.reduceMod, Int.reduceAdd, Int.reduceSub, Int.reduceMul, Int.reduceNeg, Int.reducePow, Int.reduceEq, ↓reduceIte, Nat.reduceEqDiff, Nat.reduceAdd, Nat.reduceMul, Nat.reduceLeDiff, Nat.reduceSub, Nat.reduceLT, Int.reduceToNat, Int.reduceLT, Int.reduceLE, reduceCtorEq]
    · simp only [nadd, na_eq, m1, go_sem, Int.reduceTMod, Int.reduceTDiv, Int.reduceDiv, Int.reduceMod, Int.reduceAdd, Int.reduceSub, Int.reduceMul, Int.reduceNeg, Int.reducePow, Int.reduceEq, ↓reduceIte, Nat.reduceEqDiff, Nat.reduceAdd, Nat.reduceMul, Nat.reduceLeDiff, Nat.reduceSub, Nat.reduceLT, Int.reduceToNat, Int.reduceLT, Int.reduceLE, reduceCtorEq]
    · rw [hz]; simp only [nadd, na_eq, go_sem, Int.reduceTMod, Int.reduceTDiv, Int.reduceDiv, Int.reduceMod, Int.reduceAdd, Int.reduceSub, Int.reduceMul, Int.reduceNeg, Int.reducePow, Int.reduceEq, ↓reduceIte, Nat.reduceEqDiff, Nat.reduceAdd, Nat.reduceMul, Nat.reduceLeDiff, Nat.reduceSub, Nat.reduceLT, Int.reduceToNat, Int.reduceLT, Int.reduceLE, reduceCtorEq]
  try simp only [F4, c4, r4_0, r4_1, r4_3, r4_4, r4_6, hlen, g, vR, vP, vE, hR, go_sem, Int.reduceTMod, Int.reduceTDiv, Int.reduceDiv, Int.reduceMod, Int.reduceAdd, Int.reduceSub, Int.reduceMul, Int.reduceNeg, Int.reducePow, Int.reduceEq, ↓reduceIte, Nat.reduceEqDiff, Nat.reduceAdd, Nat.reduceMul, Nat.reduceLeDiff, Nat.reduceSub, Nat.reduceLT, Int.reduceToNat, Int.reduceLT, Int.reduceLE, reduceCtorEq]
  repeat' ((first | refine FK_split (fun h_ => ?_) (fun h_ => ?_) | refine GK_split (fun h_ => ?_) (fun h_ => ?_) | refine ite_both (fun h_ => ?_) (fun h_ => ?_)) <;> (try simp only [decide_eq_true_eq, decide_eq_false_iff_not, Bool.not_true, Bool.not_false, Bool.not_eq_true', Bool.not_eq_false', Bool.not_eq_eq_eq_not, Decidable.not_not] at h_) <;> (try simp only [F4, c4, r4_0, r4_1, r4_3, r4_4, r4_6, hlen, g, vR, vP, vE, hR, h_, go_sem, Int.reduceTMod, Int.reduceTDiv, Int.reduceDiv, Int.reduceMod, Int.reduceAdd, Int.reduceSub, Int.reduceMul, Int.reduceNeg, Int.reducePow, Int.reduceEq, ↓reduceIte, Nat.reduceEqDiff, Nat.reduceAdd, Nat.reduceMul, Nat.reduceLeDiff, Nat.reduceSub, Nat.reduceLT, Int.reduceToNat, Int.reduceLT, Int.reduceLE, reduceCtorEq]))
  refine body _ _ ?_ ?_ ?_ ?_ ?_
  · simp only [go_sem, Int.reduceTMod, Int.reduceTDiv, Int.reduceDiv, Int.reduceMod, Int.reduceAdd, Int.reduceSub, Int.reduceMul, Int.reduceNeg, Int.reducePow, Int.reduceEq, ↓reduceIte, Nat.reduceEqDiff, Nat.reduceAdd, Nat.reduceMul, Nat.reduceLeDiff, Nat.reduceSub, Nat.reduceLT, Int.reduceToNat, Int.reduceLT, Int.reduceLE, reduceCtorEq]
  · simp only [go_sem, Int.reduceTMod, Int.reduceTDiv, Int.reduceDiv, Int.reduceMod, Int.reduceAdd, Int.reduceSub, Int.reduceMul, Int.reduceNeg, Int.reducePow, Int.reduceEq, ↓reduceIte, Nat.reduceEqDiff, Nat.reduceAdd, Nat.reduceMul, Nat.reduceLeDiff, Nat.reduceSub, Nat.reduceLT, Int.reduceToNat, Int.reduceLT, Int.reduceLE, reduceCtorEq]
  · simp only [nadd, na_eq, go_sem, Int.reduceTMod, Int.reduceTDiv, Int.reduceDiv, Int.reduceMod, Int.reduceAdd, Int.reduceSub, Int.reduceMul, Int.reduceNeg, Int.reducePow, Int.reduceEq, ↓reduceIte, Nat.reduceEqDiff, Nat.reduceAdd, Nat.reduceMul, Nat.reduceLeDiff, Nat.reduceSub, Nat.reduceLT, Int.reduceToNat, Int.reduceLT, Int.reduceLE, reduceCtorEq]
  · simp only [nadd, na_eq, go_sem, Int.reduceTMod, Int.reduceTDiv, Int.reduceDiv, Int.reduceMod, Int.reduceAdd, Int.reduceSub, Int.reduceMul, Int.reduceNeg, Int.reducePow, Int.reduceEq, ↓reduceIte, Nat.reduceEqDiff, Nat.reduceAdd, Nat.reduceMul, Nat.reduceLeDiff, Nat.reduceSub, Nat.reduceLT, Int.reduceToNat, Int.reduceLT, Int.reduceLE, reduceCtorEq]
  · intro j hj
    simp only [na_0 hj, na_0 (show j < n + 1 by omega), go_sem, Int.reduceTMod, Int.reduceTDiv, Int.reduceDiv, Int.reduceMod, Int.reduceAdd, Int.reduceSub, Int.reduceMul, Int.reduceNeg, Int.reducePow, Int.reduceEq, ↓reduceIte, Nat.reduceEqDiff, Nat.reduceAdd, Nat.reduceMul, Nat.reduceLeDiff, Nat.reduceSub, Nat.reduceLT, Int.reduceToNat, Int.reduceLT, Int.reduceLE, reduceCtorEq]
end Go.Proofs.Ytffhhgcgnillaaa.Sy
