import Derived.Test.YtidpeongblkcbaaDoorMgE
/- Steps of pens, both walked. Conditions: those that each theorem names. -/
namespace Go.Proofs.YtidpeongblkcbaaDoor.Sy
open Go Go.Proofs
set_option linter.unusedSimpArgs false
set_option linter.unusedVariables false
set_option maxRecDepth 20000
attribute [local go_sem] XK_seq XK_block XK_skip XK_exit XK_ret XK_cond XK_reg XK_dreg XK_ureg KN_seq KN_blk KN_lp KN_chk KN_chku KN_top KN_fin KX_seq KX_lp KX_blk KX_chk KX_top KR_seq KR_blk KR_lp KR_chk KR_top KR_fin FK_true FK_false RK_nil RK_mv RK_pick RK_alloc RK_box RK_build RK_bslice RK_load1 RK_loadA RK_store RK_nilchk RK_bin RK_beq RK_eqv RK_eqnil RK_un RK_conv RK_mkfn RK_mkslice RK_slS RK_slA RK_fadr RK_fld RK_iadrA RK_iadrS RK_idxA RK_ext RK_lenC RK_cap RK_app RK_cpy RK_mn RK_mx RK_len RK_carry RK_clr carryR um0 um1 ThenK_some RK_guard GK_tt GK_ff GK_tf GK_ft GK_none QK_some RK_callQ RK_callZ VK_clo RK_callV
  evalOp evO evOs upd_at unfrz_at putE_some putE_none boolOf_b boolOf_tup Option.map_some evRes pack_one pack_two pack_three pack_none List.getD_cons_zero List.getD_cons_succ getD_nil
  Option.some.injEq exists_eq_left' Reg.cs? fillC setL List.set_cons_zero List.set_cons_succ List.length_cons List.length_nil rd_upd rd_updn rdB wr List.drop_zero List.drop_succ_cons List.take_succ_cons List.take_zero List.getElem?_cons_zero List.getElem?_cons_succ
  ix Int.toNat_zero lenO_sl lenO_nil nadd na_eq na_eq' na_lt na_ee na_ll na_ne na_ne' na_tt
attribute [local go_sem] Reg.flat_one Reg.flat_agg Reg.flat_tup flats_nil flats_cons Cell.flat_sc Cell.flat_ptr List.all_cons List.all_nil disOk safeOk safeR decide_eq_true_eq decide_eq_false_iff_not
  List.map_cons List.map_nil List.cons_append List.nil_append List.append_nil evalOp.capsOf Bool.false_bne Bool.bne_false Bool.true_bne Bool.bne_true bne_self_eq_false beq_self_eq_true Bool.not_not Bool.false_and Bool.and_false Bool.true_or Bool.or_true beq_iff_eq eqCells
  Bool.true_beq Bool.false_beq Bool.not_eq_true' Bool.not_eq_eq_eq_not Bool.not_eq_false' and_false false_and frz_at idOf Option.isSome_some Bool.and_eq_true
attribute [local go_sem] wr_eq bV_add bV_sub bV_mul bV_eql bV_neq bV_lss bV_leq bV_gtr bV_geq bV_quo bV_rem bV_shr bV_shl uV_not uV_neg wrapU bits_and bits_or bits_xor IntKind.bits Nat.min_eq_left Nat.min_eq_right Nat.min_self
attribute [local go_sem] bne_iff_ne Int.cast_ofNat_Int Nat.zero_add Nat.add_zero and_self and_true true_and ne_eq not_false_eq_true not_true_eq_false decide_true decide_false Bool.false_eq_true Bool.not_true Bool.not_false Bool.true_and Bool.and_true Bool.or_false Bool.false_or Bool.and_self

/-- A line's length, its step to the side, its step ahead. -/
noncomputable def sN (x y : Int) : Int := isq (x * x + y * y)
noncomputable def sdP (x y h : Int) : Pt := ⟨rnd (-y * h) (sN x y), rnd (x * h) (sN x y)⟩
noncomputable def ahP (x y h : Int) : Pt := ⟨rnd (x * h) (sN x y), rnd (y * h) (sN x y)⟩
theorem le_isq {z n : Int} (hn : 0 ≤ n) (h : z * z ≤ n) : -isq n ≤ z ∧ z ≤ isq n := by
  obtain ⟨h1, h2, h3⟩ := isq_spec hn
  constructor
  · rcases Int.lt_or_le z (-isq n) with g | g
    · exfalso
      have : (isq n + 1) * (isq n + 1) ≤ (-z) * (-z) := Int.mul_le_mul (by omega) (by omega) (by omega) (by omega)
      rw [Int.neg_mul_neg] at this
      omega
    · exact g
  · rcases Int.lt_or_le (isq n) z with g | g
    · exfalso
      have : (isq n + 1) * (isq n + 1) ≤ z * z := Int.mul_le_mul (by omega) (by omega) (by omega) (by omega)
      omega
    · exact g
theorem step_bd {x y h : Int} (hl : longB x y = false) (hne : x ≠ 0 ∨ y ≠ 0) (h1 : 1 ≤ h) (h2 : h ≤ 32768) :
    (1 ≤ sN x y ∧ sN x y ≤ 1073741824) ∧ ∀ z, z = x ∨ z = y ∨ z = -y → (-536870912 ≤ z ∧ z ≤ 536870912) ∧ (-17592186044416 ≤ z * h ∧ z * h ≤ 17592186044416) ∧ -32768 ≤ rnd (z * h) (sN x y) ∧ rnd (z * h) (sN x y) ≤ 32768 := by
  have sq := sq_bd hl
  have hn : 0 ≤ x * x + y * y := by omega
  have hx := le_isq (z := x) hn (by omega)
  have hy := le_isq (z := y) hn (by omega)
  have hN : 1 ≤ sN x y ∧ sN x y ≤ 1073741824 := by
    refine ⟨?_, isq_le hn (by decide) (by omega)⟩
    unfold sN
    rcases hne with h | h <;> omega
  refine ⟨hN, fun z hz => ?_⟩
  have hzN : -sN x y ≤ z ∧ z ≤ sN x y := by unfold sN; rcases hz with rfl | rfl | rfl <;> omega
  have hzb : -536870912 ≤ z ∧ z ≤ 536870912 := by rw [long_iff] at hl; rcases hz with rfl | rfl | rfl <;> omega
  have k1 : z * h ≤ h * sN x y := by rw [Int.mul_comm h]; exact Int.mul_le_mul_of_nonneg_right hzN.2 (by omega)
  have k2 : -h * sN x y ≤ z * h := by
    have := Int.mul_le_mul_of_nonneg_right hzN.1 (show 0 ≤ h by omega)
    rw [Int.neg_mul, Int.mul_comm] at this
    rw [Int.neg_mul]
    exact this
  have k3 : z * h ≤ 536870912 * h := Int.mul_le_mul_of_nonneg_right hzb.2 (by omega)
  have k4 : -536870912 * h ≤ z * h := Int.mul_le_mul_of_nonneg_right hzb.1 (by omega)
  have r1 := rnd_le (x := z * h) (d := sN x y) (b := h) (by omega) k1
  have r2 := rnd_ge (x := z * h) (d := sN x y) (b := -h) (by omega) k2
  exact ⟨hzb, by omega, by omega, by omega⟩
section
variable {ax ay bx b_y h : Int} (ha : inP ⟨ax, ay⟩ = true) (hb : inP ⟨bx, b_y⟩ = true) (hl : longB (bx - ax) (b_y - ay) = false) (hne : bx - ax ≠ 0 ∨ b_y - ay ≠ 0) (h1 : 1 ≤ h) (h2 : h ≤ 32768)
include ha hb hl hne h1 h2
theorem v_steps (m : Mem) (k : Nat) : callF TA 46 [.agg [I ax, I ay], .agg [I bx, I b_y], RI h] m k = some (.tup [(sdP (bx - ax) (b_y - ay) h).r, (ahP (bx - ax) (b_y - ay) h).r, RI 0]) := by
  refine callF_of (Fn_ofK (fn := F46) rfl (by simp [F46]) ?_)
  obtain ⟨w1, w2⟩ := sub_wrap ha hb
  have sq := sq_bd hl
  obtain ⟨hN, bd⟩ := step_bd hl hne h1 h2
  have hl' := hl
  rw [long_iff] at hl'
  generalize hgx : bx - ax = x at *
  generalize hgy : b_y - ay = y at *
  have w3 : IntKind.i64.wrap (x * x) = x * x := wr_eq (by omega) (by omega)
  have w4 : IntKind.i64.wrap (y * y) = y * y := wr_eq (by omega) (by omega)
  have w5 : IntKind.i64.wrap (x * x + y * y) = x * x + y * y := wr_eq (by omega) (by omega)
  have w6 : IntKind.i64.wrap (0 - y) = -y := (wr_eq (by omega) (by omega)).trans (by omega)
  have vr := v_Sqrt (x * x + y * y) (by omega) (by omega)
  have m1 : (536870912 < mxI x y) = False := eq_false (by unfold mxI; split <;> omega)
  have m2 : (mnI x y < -536870912) = False := eq_false (by unfold mnI; split <;> omega)
  have p1 := v_part (-y) h (sN x y) (by have := bd (-y) (Or.inr (Or.inr rfl)); omega) (by have := bd (-y) (Or.inr (Or.inr rfl)); omega) (by have := bd (-y) (Or.inr (Or.inr rfl)); omega) (by omega) (by omega)
  have p2 := v_part x h (sN x y) (by have := bd x (Or.inl rfl); omega) (by have := bd x (Or.inl rfl); omega) (by have := bd x (Or.inl rfl); omega) (by omega) (by omega)
  have p3 := v_part y h (sN x y) (by have := bd y (Or.inr (Or.inl rfl)); omega) (by have := bd y (Or.inr (Or.inl rfl)); omega) (by have := bd y (Or.inr (Or.inl rfl)); omega) (by omega) (by omega)
  have es : isq (x * x + y * y) = sN x y := rfl
  try simp only [r46_0, r46_1, r46_2, r46_3, r46_4, r46_5, r46_6, r46_7, c46, F46, v_less, hgx, hgy, w1, w2, w3, w4, w5, w6, vr, es, maxI_two, minI_two, m1, m2, p1, p2, p3, sdP, ahP, go_sem, Int.reduceTMod, Int.reduceTDiv, Int.reduceDiv, Int.reduceMod, Int.reduceAdd, Int.reduceSub, Int.reduceMul, Int.reduceNeg, Int.reducePow, Int.reduceEq, ↓reduceIte, Nat.reduceEqDiff, Nat.reduceAdd, Nat.reduceMul, Nat.reduceLeDiff, Nat.reduceSub, Nat.reduceLT, Int.reduceToNat, Int.reduceLT, Int.reduceLE, reduceCtorEq]
  repeat' ((first | refine FK_split (fun h_ => ?_) (fun h_ => ?_) | refine GK_split (fun h_ => ?_) (fun h_ => ?_) | refine ite_both (fun h_ => ?_) (fun h_ => ?_)) <;> (try simp only [decide_eq_true_eq, decide_eq_false_iff_not, Bool.not_true, Bool.not_false, Bool.not_eq_true', Bool.not_eq_false', Bool.not_eq_eq_eq_not, Decidable.not_not] at h_) <;> (try simp only [r46_0, r46_1, r46_2, r46_3, r46_4, r46_5, r46_6, r46_7, c46, F46, v_less, hgx, hgy, w1, w2, w3, w4, w5, w6, vr, es, maxI_two, minI_two, m1, m2, p1, p2, p3, sdP, ahP, h_, go_sem, Int.reduceTMod, Int.reduceTDiv, Int.reduceDiv, Int.reduceMod, Int.reduceAdd, Int.reduceSub, Int.reduceMul, Int.reduceNeg, Int.reducePow, Int.reduceEq, ↓reduceIte, Nat.reduceEqDiff, Nat.reduceAdd, Nat.reduceMul, Nat.reduceLeDiff, Nat.reduceSub, Nat.reduceLT, Int.reduceToNat, Int.reduceLT, Int.reduceLE, reduceCtorEq]))
theorem v_rSteps (m : Mem) (k : Nat) : callF TA 54 [.agg [I ax, I ay], .agg [I bx, I b_y], RI h] m k = some (.tup [(sdP (bx - ax) (b_y - ay) h).r, (ahP (bx - ax) (b_y - ay) h).r]) := by
  refine callF_of (Fn_ofK (fn := F54) rfl (by simp [F54]) ?_)
  obtain ⟨w1, w2⟩ := sub_wrap ha hb
  have sq := sq_bd hl
  obtain ⟨hN, bd⟩ := step_bd hl hne h1 h2
  have hl' := hl
  rw [long_iff] at hl'
  generalize hgx : bx - ax = x at *
  generalize hgy : b_y - ay = y at *
  have w3 : IntKind.i64.wrap (x * x) = x * x := wr_eq (by omega) (by omega)
  have w4 : IntKind.i64.wrap (y * y) = y * y := wr_eq (by omega) (by omega)
  have w5 : IntKind.i64.wrap (x * x + y * y) = x * x + y * y := wr_eq (by omega) (by omega)
  have w6 : IntKind.i64.wrap (0 - y) = -y := (wr_eq (by omega) (by omega)).trans (by omega)
  have vr := v_Root (x * x + y * y) (by omega) (by omega)
  have bx' := bd x (Or.inl rfl)
  have by' := bd y (Or.inr (Or.inl rfl))
  have bn' := bd (-y) (Or.inr (Or.inr rfl))
  have w7 : IntKind.i64.wrap (-y * h) = -y * h := wr_eq (by omega) (by omega)
  have w8 : IntKind.i64.wrap (x * h) = x * h := wr_eq (by omega) (by omega)
  have w9 : IntKind.i64.wrap (y * h) = y * h := wr_eq (by omega) (by omega)
  have p1 := v_Round (-y * h) (sN x y) (by omega) (by omega) (by omega)
  have p2 := v_Round (x * h) (sN x y) (by omega) (by omega) (by omega)
  have p3 := v_Round (y * h) (sN x y) (by omega) (by omega) (by omega)
  have es : isq (x * x + y * y) = sN x y := rfl
  try simp only [r54_0, r54_1, r54_2, r54_3, r54_4, c54, F54, hgx, hgy, w1, w2, w3, w4, w5, w6, w7, w8, w9, vr, es, p1, p2, p3, sdP, ahP, go_sem, Int.reduceTMod, Int.reduceTDiv, Int.reduceDiv, Int.reduceMod, Int.reduceAdd, Int.reduceSub, Int.reduceMul, Int.reduceNeg, Int.reducePow, Int.reduceEq, ↓reduceIte, Nat.reduceEqDiff, Nat.reduceAdd, Nat.reduceMul, Nat.reduceLeDiff, Nat.reduceSub, Nat.reduceLT, Int.reduceToNat, Int.reduceLT, Int.reduceLE, reduceCtorEq]
  repeat' ((first | refine FK_split (fun h_ => ?_) (fun h_ => ?_) | refine GK_split (fun h_ => ?_) (fun h_ => ?_) | refine ite_both (fun h_ => ?_) (fun h_ => ?_)) <;> (try simp only [decide_eq_true_eq, decide_eq_false_iff_not, Bool.not_true, Bool.not_false, Bool.not_eq_true', Bool.not_eq_false', Bool.not_eq_eq_eq_not, Decidable.not_not] at h_) <;> (try simp only [r54_0, r54_1, r54_2, r54_3, r54_4, c54, F54, hgx, hgy, w1, w2, w3, w4, w5, w6, w7, w8, w9, vr, es, p1, p2, p3, sdP, ahP, h_, go_sem, Int.reduceTMod, Int.reduceTDiv, Int.reduceDiv, Int.reduceMod, Int.reduceAdd, Int.reduceSub, Int.reduceMul, Int.reduceNeg, Int.reducePow, Int.reduceEq, ↓reduceIte, Nat.reduceEqDiff, Nat.reduceAdd, Nat.reduceMul, Nat.reduceLeDiff, Nat.reduceSub, Nat.reduceLT, Int.reduceToNat, Int.reduceLT, Int.reduceLE, reduceCtorEq]))
end
theorem v_stepsLong {ax ay bx b_y : Int} (h : Int) (ha : inP ⟨ax, ay⟩ = true) (hb : inP ⟨bx, b_y⟩ = true) (hl : longB (bx - ax) (b_y - ay) = true) (m : Mem) (k : Nat) : callF TA 46 [.agg [I ax, I ay], .agg [I bx, I b_y], RI h] m k = some (.tup [.agg [I 0, I 0], .agg [I 0, I 0], RI 10]) := by
  refine callF_of (Fn_ofK (fn := F46) rfl (by simp [F46]) ?_)
  obtain ⟨w1, w2⟩ := sub_wrap ha hb
  have hl' : ¬ ((-536870912 ≤ bx - ax ∧ bx - ax ≤ 536870912) ∧ -536870912 ≤ b_y - ay ∧ b_y - ay ≤ 536870912) := fun h => by rw [long_iff.2 h] at hl; cases hl
  generalize hgx : bx - ax = x at *
  generalize hgy : b_y - ay = y at *
  by_cases g : 536870912 < mxI x y
  · skip
    try simp only [r46_0, r46_1, r46_2, r46_3, r46_4, r46_5, r46_6, r46_7, c46, F46, v_less, hgx, hgy, w1, w2, maxI_two, minI_two, g, go_sem, Int.reduceTMod, Int.reduceTDiv, Int.reduceDiv, Int.reduceMod, Int.reduceAdd, Int.reduceSub, Int.reduceMul, Int.reduceNeg, Int.reducePow, Int.reduceEq, ↓reduceIte, Nat.reduceEqDiff, Nat.reduceAdd, Nat.reduceMul, Nat.reduceLeDiff, Nat.reduceSub, Nat.reduceLT, Int.reduceToNat, Int.reduceLT, Int.reduceLE, reduceCtorEq]
    repeat' ((first | refine FK_split (fun h_ => ?_) (fun h_ => ?_) | refine GK_split (fun h_ => ?_) (fun h_ => ?_) | refine ite_both (fun h_ => ?_) (fun h_ => ?_)) <;> (try simp only [decide_eq_true_eq, decide_eq_false_iff_not, Bool.not_true, Bool.not_false, Bool.not_eq_true', Bool.not_eq_false', Bool.not_eq_eq_eq_not, Decidable.not_not] at h_) <;> (try simp only [r46_0, r46_1, r46_2, r46_3, r46_4, r46_5, r46_6, r46_7, c46, F46, v_less, hgx, hgy, w1, w2, maxI_two, minI_two, g, h_, go_sem, Int.reduceTMod, Int.reduceTDiv, Int.reduceDiv, Int.reduceMod, Int.reduceAdd, Int.reduceSub, Int.reduceMul, Int.reduceNeg, Int.reducePow, Int.reduceEq, ↓reduceIte, Nat.reduceEqDiff, Nat.reduceAdd, Nat.reduceMul, Nat.reduceLeDiff, Nat.reduceSub, Nat.reduceLT, Int.reduceToNat, Int.reduceLT, Int.reduceLE, reduceCtorEq]))
  · have m2 : (mnI x y < -536870912) = True := eq_true (by unfold mxI at g; unfold mnI; split at g <;> split <;> omega)
    try simp only [r46_0, r46_1, r46_2, r46_3, r46_4, r46_5, r46_6, r46_7, c46, F46, v_less, hgx, hgy, w1, w2, maxI_two, minI_two, g, m2, go_sem, Int.reduceTMod, Int.reduceTDiv, Int.reduceDiv, Int.reduceMod, Int.reduceAdd, Int.reduceSub, Int.reduceMul, Int.reduceNeg, Int.reducePow, Int.reduceEq, ↓reduceIte, Nat.reduceEqDiff, Nat.reduceAdd, Nat.reduceMul, Nat.reduceLeDiff, Nat.reduceSub, Nat.reduceLT, Int.reduceToNat, Int.reduceLT, Int.reduceLE, reduceCtorEq]
    repeat' ((first | refine FK_split (fun h_ => ?_) (fun h_ => ?_) | refine GK_split (fun h_ => ?_) (fun h_ => ?_) | refine ite_both (fun h_ => ?_) (fun h_ => ?_)) <;> (try simp only [decide_eq_true_eq, decide_eq_false_iff_not, Bool.not_true, Bool.not_false, Bool.not_eq_true', Bool.not_eq_false', Bool.not_eq_eq_eq_not, Decidable.not_not] at h_) <;> (try simp only [r46_0, r46_1, r46_2, r46_3, r46_4, r46_5, r46_6, r46_7, c46, F46, v_less, hgx, hgy, w1, w2, maxI_two, minI_two, g, m2, h_, go_sem, Int.reduceTMod, Int.reduceTDiv, Int.reduceDiv, Int.reduceMod, Int.reduceAdd, Int.reduceSub, Int.reduceMul, Int.reduceNeg, Int.reducePow, Int.reduceEq, ↓reduceIte, Nat.reduceEqDiff, Nat.reduceAdd, Nat.reduceMul, Nat.reduceLeDiff, Nat.reduceSub, Nat.reduceLT, Int.reduceToNat, Int.reduceLT, Int.reduceLE, reduceCtorEq]))
theorem v_mix (p n s : Pt) (a b : Int) (hp : inP p = true) (ha : -1 ≤ a ∧ a ≤ 1) (hb : -1 ≤ b ∧ b ≤ 1) (hn : (-32768 ≤ n.x ∧ n.x ≤ 32768) ∧ -32768 ≤ n.y ∧ n.y ≤ 32768) (hs : (-32768 ≤ s.x ∧ s.x ≤ 32768) ∧ -32768 ≤ s.y ∧ s.y ≤ 32768) (m : Mem) (k : Nat) :
    callF TA 55 [p.r, RI a, n.r, RI b, s.r] m k = some (.agg [I (p.x + a * n.x + b * s.x), I (p.y + a * n.y + b * s.y)]) := by
  refine callF_of (Fn_ofK (fn := F55) rfl (by simp [F55]) ?_)
  have hp' : (-2147483648 ≤ p.x ∧ p.x ≤ 2147483648) ∧ -2147483648 ≤ p.y ∧ p.y ≤ 2147483648 := inP_iff.1 hp
  have key : ∀ c z : Int, -1 ≤ c → c ≤ 1 → -32768 ≤ z → z ≤ 32768 → -32768 ≤ c * z ∧ c * z ≤ 32768 := fun c z c1 c2 z1 z2 => by
    rcases (show c = -1 ∨ c = 0 ∨ c = 1 by omega) with rfl | rfl | rfl <;> omega
  have q1 := key a n.x ha.1 ha.2 hn.1.1 hn.1.2
  have q2 := key a n.y ha.1 ha.2 hn.2.1 hn.2.2
  have q3 := key b s.x hb.1 hb.2 hs.1.1 hs.1.2
  have q4 := key b s.y hb.1 hb.2 hs.2.1 hs.2.2
  have w1 : IntKind.i64.wrap (a * n.x) = a * n.x := wr_eq (by omega) (by omega)
  have w2 : IntKind.i64.wrap (a * n.y) = a * n.y := wr_eq (by omega) (by omega)
  have w3 : IntKind.i64.wrap (b * s.x) = b * s.x := wr_eq (by omega) (by omega)
  have w4 : IntKind.i64.wrap (b * s.y) = b * s.y := wr_eq (by omega) (by omega)
  have w5 : IntKind.i64.wrap (p.x + a * n.x) = p.x + a * n.x := wr_eq (by omega) (by omega)
  have w6 : IntKind.i64.wrap (p.y + a * n.y) = p.y + a * n.y := wr_eq (by omega) (by omega)
  have w7 : IntKind.i64.wrap (p.x + a * n.x + b * s.x) = p.x + a * n.x + b * s.x := wr_eq (by omega) (by omega)
  have w8 : IntKind.i64.wrap (p.y + a * n.y + b * s.y) = p.y + a * n.y + b * s.y := wr_eq (by omega) (by omega)
  try simp only [r55_0, r55_1, c55, F55, w1, w2, w3, w4, w5, w6, w7, w8, go_sem, Int.reduceTMod, Int.reduceTDiv, Int.reduceDiv, Int.reduceMod, Int.reduceAdd, Int.reduceSub, Int.reduceMul, Int.reduceNeg, Int.reducePow, Int.reduceEq, ↓reduceIte, Nat.reduceEqDiff, Nat.reduceAdd, Nat.reduceMul, Nat.reduceLeDiff, Nat.reduceSub, Nat.reduceLT, Int.reduceToNat, Int.reduceLT, Int.reduceLE, reduceCtorEq]
  repeat' ((first | refine FK_split (fun h_ => ?_) (fun h_ => ?_) | refine GK_split (fun h_ => ?_) (fun h_ => ?_) | refine ite_both (fun h_ => ?_) (fun h_ => ?_)) <;> (try simp only [decide_eq_true_eq, decide_eq_false_iff_not, Bool.not_true, Bool.not_false, Bool.not_eq_true', Bool.not_eq_false', Bool.not_eq_eq_eq_not, Decidable.not_not] at h_) <;> (try simp only [r55_0, r55_1, c55, F55, w1, w2, w3, w4, w5, w6, w7, w8, h_, go_sem, Int.reduceTMod, Int.reduceTDiv, Int.reduceDiv, Int.reduceMod, Int.reduceAdd, Int.reduceSub, Int.reduceMul, Int.reduceNeg, Int.reducePow, Int.reduceEq, ↓reduceIte, Nat.reduceEqDiff, Nat.reduceAdd, Nat.reduceMul, Nat.reduceLeDiff, Nat.reduceSub, Nat.reduceLT, Int.reduceToNat, Int.reduceLT, Int.reduceLE, reduceCtorEq]))

/- The law StrokeDiscs walked. Conditions: those that each theorem names. -/
open Go Go.Proofs
set_option linter.unusedSimpArgs false
set_option linter.unusedVariables false

theorem disc_at {m : Mem} {id : Nat} {cx cy h : Int} {o : Bool} (hm : m id = some ⟨(disc cx cy h).flatMap Pt.cs, o⟩) {n : Nat} (hid : id < n) : RPt m n (.one (.sl id 0 16 none 2)) (disc cx cy h) := by
  refine Or.inr ⟨id, 0, none, rfl, hid, ?_⟩
  rw [rd_of hm]
  rfl
set_option maxHeartbeats 4000000 in
theorem law3 (cx cy h : Int) (m : Mem) (n : Nat) (h0n : 0 < n) (o : Bool) (hm0 : m 0 = some ⟨cosT, o⟩) :
    Fn TA 3 [.agg [I cx, I cy], RI h] m n (fun r _ _ => r = RB true) := by
  refine Fn_ofK (fn := F3) rfl (by simp [F3]) ?_
  have z0 := na_0 h0n
  try simp only [r3_0, r3_1, r3_2, r3_3, r3_4, r3_5, r3_6, r3_7, c3, F3, go_sem, Int.reduceTMod, Int.reduceTDiv, Int.reduceDiv, Int.reduceMod, Int.reduceAdd, Int.reduceSub, Int.reduceMul, Int.reduceNeg, Int.reducePow, Int.reduceEq, ↓reduceIte, Nat.reduceEqDiff, Nat.reduceAdd, Nat.reduceMul, Nat.reduceLeDiff, Nat.reduceSub, Nat.reduceLT, Int.reduceToNat, Int.reduceLT, Int.reduceLE, reduceCtorEq]
  repeat' ((first | refine FK_split (fun h_ => ?_) (fun h_ => ?_) | refine GK_split (fun h_ => ?_) (fun h_ => ?_) | refine ite_both (fun h_ => ?_) (fun h_ => ?_)) <;> (try simp only [decide_eq_true_eq, decide_eq_false_iff_not, Bool.not_true, Bool.not_false, Bool.not_eq_true', Bool.not_eq_false', Bool.not_eq_eq_eq_not, Decidable.not_not] at h_) <;> (try simp only [r3_0, r3_1, r3_2, r3_3, r3_4, r3_5, r3_6, r3_7, c3, F3, h_, go_sem, Int.reduceTMod, Int.reduceTDiv, Int.reduceDiv, Int.reduceMod, Int.reduceAdd, Int.reduceSub, Int.reduceMul, Int.reduceNeg, Int.reducePow, Int.reduceEq, ↓reduceIte, Nat.reduceEqDiff, Nat.reduceAdd, Nat.reduceMul, Nat.reduceLeDiff, Nat.reduceSub, Nat.reduceLT, Int.reduceToNat, Int.reduceLT, Int.reduceLE, reduceCtorEq]))
  refine RK_callk ?_
  refine (w_Disc cx cy h _ _ (by omega) false (by simp only [hm0, z0, go_sem, Int.reduceTMod, Int.reduceTDiv, Int.reduceDiv, Int.reduceMod, Int.reduceAdd, Int.reduceSub, Int.reduceMul, Int.reduceNeg, Int.reducePow, Int.reduceEq, ↓reduceIte, Nat.reduceEqDiff, Nat.reduceAdd, Nat.reduceMul, Nat.reduceLeDiff, Nat.reduceSub, Nat.reduceLT, Int.reduceToNat, Int.reduceLT, Int.reduceLE, reduceCtorEq])).mono ?_
  intro r1 m1 n1 hq
  obtain ⟨M, hM⟩ : ∃ M, M = unfrz (upd m n (some ⟨[I cx, I cy], true⟩)) (n + 1) m1 := ⟨_, rfl⟩
  obtain ⟨N, hN⟩ : ∃ N, N = max (n + 1) n1 := ⟨_, rfl⟩
  rw [← hM, ← hN]
  have hN1 : n + 1 ≤ N := by omega
  have hn : M n = some ⟨[I cx, I cy], true⟩ := by rw [hM]; simp only [go_sem, Int.reduceTMod, Int.reduceTDiv, Int.reduceDiv, Int.reduceMod, Int.reduceAdd, Int.reduceSub, Int.reduceMul, Int.reduceNeg, Int.reducePow, Int.reduceEq, ↓reduceIte, Nat.reduceEqDiff, Nat.reduceAdd, Nat.reduceMul, Nat.reduceLeDiff, Nat.reduceSub, Nat.reduceLT, Int.reduceToNat, Int.reduceLT, Int.reduceLE, reduceCtorEq]
  have hnN : n < N := by omega
  by_cases g : (1 ≤ h ∧ h ≤ 32768) ∧ inP ⟨cx, cy⟩ = true
  · obtain ⟨⟨g1, g2⟩, hin⟩ := g
    have g1' : (h < 1) = False := eq_false (by omega)
    have g2' : (32768 < h) = False := eq_false (by omega)
    have hin' := hin
    simp only [inP, Bool.and_eq_true, rm_iff] at hin'
    -- what the program hands back
    have key : ∃ (r : Reg) (k : Int), r1 = .tup [r, RI k] ∧ (((disc cx cy h).all inP = true ∧ k = 0 ∧ ∃ id, r = .one (.sl id 0 16 none 2) ∧ id ≠ n ∧ id < N ∧ M id = some ⟨(disc cx cy h).flatMap Pt.cs, true⟩) ∨ ((disc cx cy h).all inP = false ∧ k = 10 ∧ r = rnil)) := by
      cases ha : (disc cx cy h).all inP
      · exact ⟨rnil, 10, hq.out ⟨⟨g1, g2⟩, hin⟩ ha, Or.inr ⟨rfl, rfl, rfl⟩⟩
      · obtain ⟨id, e1, e2, e3, e4⟩ := hq.ok ⟨⟨g1, g2⟩, hin⟩ ha
        refine ⟨_, 0, e1, Or.inl ⟨rfl, rfl, id, rfl, by omega, by omega, ?_⟩⟩
        rw [hM, unfrz_at, if_neg (by omega)]
        exact e4
    obtain ⟨r, k, rfl, hk⟩ := key
    clear hq
    try simp only [r3_0, r3_1, r3_2, r3_3, r3_4, r3_5, r3_6, r3_7, c3, F3, g1', g2', hn, rd_of hn, v_lin, v_lref, hin, go_sem, Int.reduceTMod, Int.reduceTDiv, Int.reduceDiv, Int.reduceMod, Int.reduceAdd, Int.reduceSub, Int.reduceMul, Int.reduceNeg, Int.reducePow, Int.reduceEq, ↓reduceIte, Nat.reduceEqDiff, Nat.reduceAdd, Nat.reduceMul, Nat.reduceLeDiff, Nat.reduceSub, Nat.reduceLT, Int.reduceToNat, Int.reduceLT, Int.reduceLE, reduceCtorEq]
    repeat' ((first | refine FK_split (fun h_ => ?_) (fun h_ => ?_) | refine GK_split (fun h_ => ?_) (fun h_ => ?_) | refine ite_both (fun h_ => ?_) (fun h_ => ?_)) <;> (try simp only [decide_eq_true_eq, decide_eq_false_iff_not, Bool.not_true, Bool.not_false, Bool.not_eq_true', Bool.not_eq_false', Bool.not_eq_eq_eq_not, Decidable.not_not] at h_) <;> (try simp only [r3_0, r3_1, r3_2, r3_3, r3_4, r3_5, r3_6, r3_7, c3, F3, g1', g2', hn, rd_of hn, v_lin, v_lref, hin, h_, go_sem, Int.reduceTMod, Int.reduceTDiv, Int.reduceDiv, Int.reduceMod, Int.reduceAdd, Int.reduceSub, Int.reduceMul, Int.reduceNeg, Int.reducePow, Int.reduceEq, ↓reduceIte, Nat.reduceEqDiff, Nat.reduceAdd, Nat.reduceMul, Nat.reduceLeDiff, Nat.reduceSub, Nat.reduceLT, Int.reduceToNat, Int.reduceLT, Int.reduceLE, reduceCtorEq]))
    refine RK_callk ?_
    refine (w_rDisc cx cy h g1 g2 hin _ _).mono ?_
    rintro _ m2 n2 ⟨id2, rfl, f2, f3, f4⟩
    obtain ⟨M2, hM2⟩ : ∃ M2, M2 = unfrz M N m2 := ⟨_, rfl⟩
    obtain ⟨N2, hN2⟩ : ∃ N2, N2 = max N n2 := ⟨_, rfl⟩
    rw [← hM2, ← hN2]
    have hn2 : M2 n = some ⟨[I cx, I cy], true⟩ := by rw [hM2, unfrz_at, if_pos hnN]; exact hn
    have hd2 : M2 id2 = some ⟨(disc cx cy h).flatMap Pt.cs, true⟩ := by rw [hM2, unfrz_at, if_neg (by omega)]; exact f4
    have hr2 : RPt M2 N2 (.one (.sl id2 0 16 none 2)) (disc cx cy h) := disc_at hd2 (by omega)
    have hl : (disc cx cy h).length < 4294967296 := by show 16 < 4294967296; omega
    have v1 := v_In07 _ _ (frz M2) N2 hr2.frz hl
    rcases hk with ⟨ha, rfl, id, rfl, e1, e2, e3⟩ | ⟨ha, rfl, rfl⟩
    · have hd1 : M2 id = some ⟨(disc cx cy h).flatMap Pt.cs, true⟩ := by rw [hM2, unfrz_at, if_pos e2]; exact e3
      have hr1 : RPt M2 N2 (.one (.sl id 0 16 none 2)) (disc cx cy h) := disc_at hd1 (by omega)
      have v2 := v_same _ _ _ _ (frz M2) N2 hr1.frz hr2.frz hl
      obtain ⟨p1, p2, p3⟩ := PC_ends g1 g2
      have wx1 : IntKind.i64.wrap (cx + h) = cx + h := wr_eq (by omega) (by omega)
      have wy1 : IntKind.i64.wrap (cy + h) = cy + h := wr_eq (by omega) (by omega)
      have wx2 : IntKind.i64.wrap (cx - h) = cx + -h := (wr_eq (by omega) (by omega)).trans (by omega)
      have wy2 : IntKind.i64.wrap (cy - h) = cy + -h := (wr_eq (by omega) (by omega)).trans (by omega)
      have hd3 := hd1
      simp only [disc, dpt, List.flatMap_cons, List.flatMap_nil, List.cons_append, List.nil_append, p1, p2, p3, Int.add_zero] at hd3
      try simp only [r3_0, r3_1, r3_2, r3_3, r3_4, r3_5, r3_6, r3_7, c3, F3, hn2, rd_of hn2, hd3, rd_of hd3, v1, v2, ha, v_lat, wx1, wy1, wx2, wy2, Int.add_zero, List.flatMap_cons, List.flatMap_nil, v_awake07, Bool.and_self, Bool.and_true, Int.reduceToNat, Nat.reduceMul, Nat.zero_add, decide_true, go_sem, Int.reduceTMod, Int.reduceTDiv, Int.reduceDiv, Int.reduceMod, Int.reduceAdd, Int.reduceSub, Int.reduceMul, Int.reduceNeg, Int.reducePow, Int.reduceEq, ↓reduceIte, Nat.reduceEqDiff, Nat.reduceAdd, Nat.reduceMul, Nat.reduceLeDiff, Nat.reduceSub, Nat.reduceLT, Int.reduceToNat, Int.reduceLT, Int.reduceLE, reduceCtorEq]
      repeat' ((first | refine FK_split (fun h_ => ?_) (fun h_ => ?_) | refine GK_split (fun h_ => ?_) (fun h_ => ?_) | refine ite_both (fun h_ => ?_) (fun h_ => ?_)) <;> (try simp only [decide_eq_true_eq, decide_eq_false_iff_not, Bool.not_true, Bool.not_false, Bool.not_eq_true', Bool.not_eq_false', Bool.not_eq_eq_eq_not, Decidable.not_not] at h_) <;> (try simp only [r3_0, r3_1, r3_2, r3_3, r3_4, r3_5, r3_6, r3_7, c3, F3, hn2, rd_of hn2, hd3, rd_of hd3, v1, v2, ha, v_lat, wx1, wy1, wx2, wy2, Int.add_zero, List.flatMap_cons, List.flatMap_nil, v_awake07, Bool.and_self, Bool.and_true, Int.reduceToNat, Nat.reduceMul, Nat.zero_add, decide_true, h_, go_sem, Int.reduceTMod, Int.reduceTDiv, Int.reduceDiv, Int.reduceMod, Int.reduceAdd, Int.reduceSub, Int.reduceMul, Int.reduceNeg, Int.reducePow, Int.reduceEq, ↓reduceIte, Nat.reduceEqDiff, Nat.reduceAdd, Nat.reduceMul, Nat.reduceLeDiff, Nat.reduceSub, Nat.reduceLT, Int.reduceToNat, Int.reduceLT, Int.reduceLE, reduceCtorEq]))
    · skip
      try simp only [r3_0, r3_1, r3_2, r3_3, r3_4, r3_5, r3_6, r3_7, c3, F3, hn2, rd_of hn2, v1, ha, v_awake07, go_sem, Int.reduceTMod, Int.reduceTDiv, Int.reduceDiv, Int.reduceMod, Int.reduceAdd, Int.reduceSub, Int.reduceMul, Int.reduceNeg, Int.reducePow, Int.reduceEq, ↓reduceIte, Nat.reduceEqDiff, Nat.reduceAdd, Nat.reduceMul, Nat.reduceLeDiff, Nat.reduceSub, Nat.reduceLT, Int.reduceToNat, Int.reduceLT, Int.reduceLE, reduceCtorEq]
      repeat' ((first | refine FK_split (fun h_ => ?_) (fun h_ => ?_) | refine GK_split (fun h_ => ?_) (fun h_ => ?_) | refine ite_both (fun h_ => ?_) (fun h_ => ?_)) <;> (try simp only [decide_eq_true_eq, decide_eq_false_iff_not, Bool.not_true, Bool.not_false, Bool.not_eq_true', Bool.not_eq_false', Bool.not_eq_eq_eq_not, Decidable.not_not] at h_) <;> (try simp only [r3_0, r3_1, r3_2, r3_3, r3_4, r3_5, r3_6, r3_7, c3, F3, hn2, rd_of hn2, v1, ha, v_awake07, h_, go_sem, Int.reduceTMod, Int.reduceTDiv, Int.reduceDiv, Int.reduceMod, Int.reduceAdd, Int.reduceSub, Int.reduceMul, Int.reduceNeg, Int.reducePow, Int.reduceEq, ↓reduceIte, Nat.reduceEqDiff, Nat.reduceAdd, Nat.reduceMul, Nat.reduceLeDiff, Nat.reduceSub, Nat.reduceLT, Int.reduceToNat, Int.reduceLT, Int.reduceLE, reduceCtorEq]))
  · have hr1 := hq.bad g
    subst hr1
    have e : ¬ (h < 1) → ¬ (32768 < h) → inP ⟨cx, cy⟩ = false := fun a b => by
      cases hh : inP ⟨cx, cy⟩
      · rfl
      · exact absurd ⟨⟨by omega, by omega⟩, hh⟩ g
    by_cases a : h < 1
    · skip
      try simp only [r3_0, r3_1, r3_2, r3_3, r3_4, r3_5, r3_6, r3_7, c3, F3, a, v_awake07, go_sem, Int.reduceTMod, Int.reduceTDiv, Int.reduceDiv, Int.reduceMod, Int.reduceAdd, Int.reduceSub, Int.reduceMul, Int.reduceNeg, Int.reducePow, Int.reduceEq, ↓reduceIte, Nat.reduceEqDiff, Nat.reduceAdd, Nat.reduceMul, Nat.reduceLeDiff, Nat.reduceSub, Nat.reduceLT, Int.reduceToNat, Int.reduceLT, Int.reduceLE, reduceCtorEq]
      repeat' ((first | refine FK_split (fun h_ => ?_) (fun h_ => ?_) | refine GK_split (fun h_ => ?_) (fun h_ => ?_) | refine ite_both (fun h_ => ?_) (fun h_ => ?_)) <;> (try simp only [decide_eq_true_eq, decide_eq_false_iff_not, Bool.not_true, Bool.not_false, Bool.not_eq_true', Bool.not_eq_false', Bool.not_eq_eq_eq_not, Decidable.not_not] at h_) <;> (try simp only [r3_0, r3_1, r3_2, r3_3, r3_4, r3_5, r3_6, r3_7, c3, F3, a, v_awake07, h_, go_sem, Int.reduceTMod, Int.reduceTDiv, Int.reduceDiv, Int.reduceMod, Int.reduceAdd, Int.reduceSub, Int.reduceMul, Int.reduceNeg, Int.reducePow, Int.reduceEq, ↓reduceIte, Nat.reduceEqDiff, Nat.reduceAdd, Nat.reduceMul, Nat.reduceLeDiff, Nat.reduceSub, Nat.reduceLT, Int.reduceToNat, Int.reduceLT, Int.reduceLE, reduceCtorEq]))
    · by_cases b : 32768 < h
      · skip
        try simp only [r3_0, r3_1, r3_2, r3_3, r3_4, r3_5, r3_6, r3_7, c3, F3, a, b, v_awake07, go_sem, Int.reduceTMod, Int.reduceTDiv, Int.reduceDiv, Int.reduceMod, Int.reduceAdd, Int.reduceSub, Int.reduceMul, Int.reduceNeg, Int.reducePow, Int.reduceEq, ↓reduceIte, Nat.reduceEqDiff, Nat.reduceAdd, Nat.reduceMul, Nat.reduceLeDiff, Nat.reduceSub, Nat.reduceLT, Int.reduceToNat, Int.reduceLT, Int.reduceLE, reduceCtorEq]
        repeat' ((first | refine FK_split (fun h_ => ?_) (fun h_ => ?_) | refine GK_split (fun h_ => ?_) (fun h_ => ?_) | refine ite_both (fun h_ => ?_) (fun h_ => ?_)) <;> (try simp only [decide_eq_true_eq, decide_eq_false_iff_not, Bool.not_true, Bool.not_false, Bool.not_eq_true', Bool.not_eq_false', Bool.not_eq_eq_eq_not, Decidable.not_not] at h_) <;> (try simp only [r3_0, r3_1, r3_2, r3_3, r3_4, r3_5, r3_6, r3_7, c3, F3, a, b, v_awake07, h_, go_sem, Int.reduceTMod, Int.reduceTDiv, Int.reduceDiv, Int.reduceMod, Int.reduceAdd, Int.reduceSub, Int.reduceMul, Int.reduceNeg, Int.reducePow, Int.reduceEq, ↓reduceIte, Nat.reduceEqDiff, Nat.reduceAdd, Nat.reduceMul, Nat.reduceLeDiff, Nat.reduceSub, Nat.reduceLT, Int.reduceToNat, Int.reduceLT, Int.reduceLE, reduceCtorEq]))
      · have e' := e a b
        try simp only [r3_0, r3_1, r3_2, r3_3, r3_4, r3_5, r3_6, r3_7, c3, F3, a, b, e', hn, rd_of hn, v_lin, v_awake07, go_sem, Int.reduceTMod, Int.reduceTDiv, Int.reduceDiv, Int.reduceMod, Int.reduceAdd, Int.reduceSub, Int.reduceMul, Int.reduceNeg, Int.reducePow, Int.reduceEq, ↓reduceIte, Nat.reduceEqDiff, Nat.reduceAdd, Nat.reduceMul, Nat.reduceLeDiff, Nat.reduceSub, Nat.reduceLT, Int.reduceToNat, Int.reduceLT, Int.reduceLE, reduceCtorEq]
        repeat' ((first | refine FK_split (fun h_ => ?_) (fun h_ => ?_) | refine GK_split (fun h_ => ?_) (fun h_ => ?_) | refine ite_both (fun h_ => ?_) (fun h_ => ?_)) <;> (try simp only [decide_eq_true_eq, decide_eq_false_iff_not, Bool.not_true, Bool.not_false, Bool.not_eq_true', Bool.not_eq_false', Bool.not_eq_eq_eq_not, Decidable.not_not] at h_) <;> (try simp only [r3_0, r3_1, r3_2, r3_3, r3_4, r3_5, r3_6, r3_7, c3, F3, a, b, e', hn, rd_of hn, v_lin, v_awake07, h_, go_sem, Int.reduceTMod, Int.reduceTDiv, Int.reduceDiv, Int.reduceMod, Int.reduceAdd, Int.reduceSub, Int.reduceMul, Int.reduceNeg, Int.reducePow, Int.reduceEq, ↓reduceIte, Nat.reduceEqDiff, Nat.reduceAdd, Nat.reduceMul, Nat.reduceLeDiff, Nat.reduceSub, Nat.reduceLT, Int.reduceToNat, Int.reduceLT, Int.reduceLE, reduceCtorEq]))

def cosV : List Int := [65536, 60547, 46341, 25080, 0, -25080, -46341, -60547, -65536, -60547, -46341, -25080, 0, 25080, 46341, 60547]
theorem rowL3 (hmix : Tryd.prog.follows .mixedOrders = true) (W : World) (ht : 0 < W.heap.size ∧ ∀ j v, cosV[j]? = some v → W.cell? ⟨0, j, none⟩ = some (.int .i64 v)) (l : List Value) (h : CksOk [.int .i64, .int .i64] l) (k : Int) (hk : IntKind.i64.min ≤ k ∧ k ≤ IntKind.i64.max) :
    Calls Tryd.prog 3 #[.agg l.toArray, .int .i64 k] W (fun e w' => e = .returned (.bool true) ∧ Go.RowKit.Below W.heap.size W w') := by
  have r0 := h.rel (ρ := fun _ => (0, 0)) (n := 1) (w := W)
  obtain ⟨cx, _, rfl, _, cy, _, rfl, _, rfl⟩ := h
  exact law_calls (ng := 1) (ρ := fun _ => (0, 0)) (n := 1) hmix TA_ok (law3 cx cy k _ 1 (by omega) false (upd_same _ _ _)) (tab_mem ht.1 ht.2) tab_glob ⟨_, _, rfl, ⟨_, rfl, r0⟩, _, _, rfl, ⟨rfl, rfl⟩, rfl⟩ tab_held

/- Rows of points copied: as_ the reference's points; without repeated ones. Conditions: those that each theorem names. -/
open Go Go.Proofs
set_option linter.unusedSimpArgs false
set_option linter.unusedVariables false

abbrev OPt := OL Pt.cs 2
theorem take_snoc {α : Type} {l : List α} {i : Nat} {p : α} (hp : l[i]? = some p) : l.take (i + 1) = l.take i ++ [p] := by
  rw [List.take_add_one, hp]; rfl
theorem rd_same {m m' : Mem} {id off k : Nat} (h : m' id = m id) : rd m' id off k = rd m id off k := by
  unfold rd; rw [h]
theorem pt_nb {p q : Pt} (h : p ≠ q) : (p.x == q.x && p.y == q.y) = false := by
  rcases pt_ne h with h | h <;> simp [h]
theorem pt_eb {p q : Pt} (h : p = q) : (p.x == q.x && p.y == q.y) = true := by simp [h]
theorem all_at {l : List Pt} (h : l.all inP = true) {i : Nat} {p : Pt} (hp : l[i]? = some p) : inP p = true := List.all_eq_true.1 h p (List.mem_of_getElem? hp)
/-- The points without those that are the same as_ the one ahead, up to a place. -/
def pln (l : List Pt) : Nat → List Pt
  | 0 => []
  | i + 1 => if i = 0 ∨ l[i]? ≠ l[i - 1]? then pln l i ++ (l[i]?).toList else pln l i
theorem pln_keep {l : List Pt} {i : Nat} {p : Pt} (hp : l[i]? = some p) (h : i = 0 ∨ l[i - 1]? ≠ some p) : pln l (i + 1) = pln l i ++ [p] := by
  rw [pln, hp, if_pos]
  · rfl
  · rcases h with h | h
    · exact Or.inl h
    · exact Or.inr (fun e => h e.symm)
theorem pln_skip {l : List Pt} {i : Nat} {p : Pt} (hp : l[i]? = some p) (h0 : i ≠ 0) (h : l[i - 1]? = some p) : pln l (i + 1) = pln l i := by
  rw [pln, hp, if_neg]
  rintro (e | e)
  · exact h0 e
  · exact e h.symm
theorem pln_len (l : List Pt) : ∀ i, (pln l i).length ≤ i
  | 0 => by simp [pln]
  | i + 1 => by
    have := pln_len l i
    rw [pln]
    split
    · rw [List.length_append]
      have : (l[i]?).toList.length ≤ 1 := by cases l[i]? <;> simp
      omega
    · omega
theorem pln_all {l : List Pt} (h : l.all inP = true) : ∀ i, (pln l i).all inP = true
  | 0 => rfl
  | i + 1 => by
    rw [pln]
    split
    · rw [List.all_append, pln_all h i, Bool.true_and]
      cases hp : l[i]? with
      | none => rfl
      | some p =>
        have := List.all_eq_true.1 h p (List.mem_of_getElem? hp)
        simp [this]
    · exact pln_all h i
theorem w_refs (r : Reg) (l : List Pt) (m : Mem) (n : Nat) (hr : RPt m n r l) (hl : l.length < 4294967296) :
    Fn TA 16 [r] m n (fun r' m' n' => OPt n m' n' r' l ∧ n ≤ n') := by
  refine Fn_ofK (fn := F16) rfl (by simp [F16]) ?_
  have hlen := hr.len
  try simp only [r16_0, r16_1, r16_2, r16_3, r16_4, r16_5, r16_6, r16_7, c16, F16, hlen, go_sem, Int.reduceTMod, Int.reduceTDiv, Int.reduceDiv, Int.reduceMod, Int.reduceAdd, Int.reduceSub, Int.reduceMul, Int.reduceNeg, Int.reducePow, Int.reduceEq, ↓reduceIte, Nat.reduceEqDiff, Nat.reduceAdd, Nat.reduceMul, Nat.reduceLeDiff, Nat.reduceSub, Nat.reduceLT, Int.reduceToNat, Int.reduceLT, Int.reduceLE, reduceCtorEq]
  repeat' ((first | refine FK_split (fun h_ => ?_) (fun h_ => ?_) | refine GK_split (fun h_ => ?_) (fun h_ => ?_) | refine ite_both (fun h_ => ?_) (fun h_ => ?_)) <;> (try simp only [decide_eq_true_eq, decide_eq_false_iff_not, Bool.not_true, Bool.not_false, Bool.not_eq_true', Bool.not_eq_false', Bool.not_eq_eq_eq_not, Decidable.not_not] at h_) <;> (try simp only [r16_0, r16_1, r16_2, r16_3, r16_4, r16_5, r16_6, r16_7, c16, F16, hlen, h_, go_sem, Int.reduceTMod, Int.reduceTDiv, Int.reduceDiv, Int.reduceMod, Int.reduceAdd, Int.reduceSub, Int.reduceMul, Int.reduceNeg, Int.reducePow, Int.reduceEq, ↓reduceIte, Nat.reduceEqDiff, Nat.reduceAdd, Nat.reduceMul, Nat.reduceLeDiff, Nat.reduceSub, Nat.reduceLT, Int.reduceToNat, Int.reduceLT, Int.reduceLE, reduceCtorEq]))
  refine XK_iter (inv := fun i s => s.e 8 = RI i ∧ s.e 7 = RI l.length ∧ s.e 6 = r ∧ n ≤ s.n ∧ (∀ id, id < n → s.m id = m id) ∧ OPt n s.m s.n (s.e 3) (l.take i)) l.length
    (fun L _ => ⟨fun i hi s hs next => ?_, fun s hs => ?_⟩) 0 (by omega) _ ?_
  · obtain ⟨e, M, N⟩ := s
    obtain ⟨q8, q7, q6, qn, qm, qo⟩ := hs
    simp only at q8 q7 q6 qn qm qo
    have hp : l[i]? = some l[i] := List.getElem?_eq_getElem hi
    obtain ⟨id, off, cap, hr1, hid, hrd⟩ := hr.at cs2 hp
    generalize l[i] = p at *
    have c2 : ((i : Int) < (l.length : Int)) = True := eq_true (by omega)
    have c3 : (0 ≤ (i : Int)) = True := eq_true (by omega)
    have c7 : IntKind.i64.wrap ((i : Int) + 1) = ((i + 1 : Nat) : Int) := wr_nat (by omega)
    rw [hr1] at q6
    rw [← rd_same (qm id hid)] at hrd
    have hidN : id < N := by omega
    have n1 := na_0 hidN
    try simp only [r16_0, r16_1, r16_2, r16_3, r16_4, r16_5, r16_6, r16_7, c16, F16, l16_0, q8, q7, q6, c2, c3, c7, hrd, n1, v_lref, Int.toNat_natCast, go_sem, Int.reduceTMod, Int.reduceTDiv, Int.reduceDiv, Int.reduceMod, Int.reduceAdd, Int.reduceSub, Int.reduceMul, Int.reduceNeg, Int.reducePow, Int.reduceEq, ↓reduceIte, Nat.reduceEqDiff, Nat.reduceAdd, Nat.reduceMul, Nat.reduceLeDiff, Nat.reduceSub, Nat.reduceLT, Int.reduceToNat, Int.reduceLT, Int.reduceLE, reduceCtorEq]
    repeat' ((first | refine FK_split (fun h_ => ?_) (fun h_ => ?_) | refine GK_split (fun h_ => ?_) (fun h_ => ?_) | refine ite_both (fun h_ => ?_) (fun h_ => ?_)) <;> (try simp only [decide_eq_true_eq, decide_eq_false_iff_not, Bool.not_true, Bool.not_false, Bool.not_eq_true', Bool.not_eq_false', Bool.not_eq_eq_eq_not, Decidable.not_not] at h_) <;> (try simp only [r16_0, r16_1, r16_2, r16_3, r16_4, r16_5, r16_6, r16_7, c16, F16, l16_0, q8, q7, q6, c2, c3, c7, hrd, n1, v_lref, Int.toNat_natCast, h_, go_sem, Int.reduceTMod, Int.reduceTDiv, Int.reduceDiv, Int.reduceMod, Int.reduceAdd, Int.reduceSub, Int.reduceMul, Int.reduceNeg, Int.reducePow, Int.reduceEq, ↓reduceIte, Nat.reduceEqDiff, Nat.reduceAdd, Nat.reduceMul, Nat.reduceLeDiff, Nat.reduceSub, Nat.reduceLT, Int.reduceToNat, Int.reduceLT, Int.reduceLE, reduceCtorEq]))
    refine K_push cs2 (by decide) (p := p) (o := true) qo (by omega) (fun id h1 h2 => by simp only [na_0 h2, na_ne h2, go_sem, Int.reduceTMod, Int.reduceTDiv, Int.reduceDiv, Int.reduceMod, Int.reduceAdd, Int.reduceSub, Int.reduceMul, Int.reduceNeg, Int.reducePow, Int.reduceEq, ↓reduceIte, Nat.reduceEqDiff, Nat.reduceAdd, Nat.reduceMul, Nat.reduceLeDiff, Nat.reduceSub, Nat.reduceLT, Int.reduceToNat, Int.reduceLT, Int.reduceLE, reduceCtorEq]) (by simp only [go_sem, Int.reduceTMod, Int.reduceTDiv, Int.reduceDiv, Int.reduceMod, Int.reduceAdd, Int.reduceSub, Int.reduceMul, Int.reduceNeg, Int.reducePow, Int.reduceEq, ↓reduceIte, Nat.reduceEqDiff, Nat.reduceAdd, Nat.reduceMul, Nat.reduceLeDiff, Nat.reduceSub, Nat.reduceLT, Int.reduceToNat, Int.reduceLT, Int.reduceLE, reduceCtorEq]) (by rw [List.length_take]; omega) (by omega) ?_
    intro r' m' ho h1 h2
    try simp only [r16_0, r16_1, r16_2, r16_3, r16_4, r16_5, r16_6, r16_7, c16, F16, q8, q7, q6, c7, go_sem, Int.reduceTMod, Int.reduceTDiv, Int.reduceDiv, Int.reduceMod, Int.reduceAdd, Int.reduceSub, Int.reduceMul, Int.reduceNeg, Int.reducePow, Int.reduceEq, ↓reduceIte, Nat.reduceEqDiff, Nat.reduceAdd, Nat.reduceMul, Nat.reduceLeDiff, Nat.reduceSub, Nat.reduceLT, Int.reduceToNat, Int.reduceLT, Int.reduceLE, reduceCtorEq]
    repeat' ((first | refine FK_split (fun h_ => ?_) (fun h_ => ?_) | refine GK_split (fun h_ => ?_) (fun h_ => ?_) | refine ite_both (fun h_ => ?_) (fun h_ => ?_)) <;> (try simp only [decide_eq_true_eq, decide_eq_false_iff_not, Bool.not_true, Bool.not_false, Bool.not_eq_true', Bool.not_eq_false', Bool.not_eq_eq_eq_not, Decidable.not_not] at h_) <;> (try simp only [r16_0, r16_1, r16_2, r16_3, r16_4, r16_5, r16_6, r16_7, c16, F16, q8, q7, q6, c7, h_, go_sem, Int.reduceTMod, Int.reduceTDiv, Int.reduceDiv, Int.reduceMod, Int.reduceAdd, Int.reduceSub, Int.reduceMul, Int.reduceNeg, Int.reducePow, Int.reduceEq, ↓reduceIte, Nat.reduceEqDiff, Nat.reduceAdd, Nat.reduceMul, Nat.reduceLeDiff, Nat.reduceSub, Nat.reduceLT, Int.reduceToNat, Int.reduceLT, Int.reduceLE, reduceCtorEq]))
    refine next _ ⟨?_, ?_, ?_, ?_, ?_, ?_⟩
    · simp only [go_sem, Int.reduceTMod, Int.reduceTDiv, Int.reduceDiv, Int.reduceMod, Int.reduceAdd, Int.reduceSub, Int.reduceMul, Int.reduceNeg, Int.reducePow, Int.reduceEq, ↓reduceIte, Nat.reduceEqDiff, Nat.reduceAdd, Nat.reduceMul, Nat.reduceLeDiff, Nat.reduceSub, Nat.reduceLT, Int.reduceToNat, Int.reduceLT, Int.reduceLE, reduceCtorEq]
    · simp only [q7, go_sem, Int.reduceTMod, Int.reduceTDiv, Int.reduceDiv, Int.reduceMod, Int.reduceAdd, Int.reduceSub, Int.reduceMul, Int.reduceNeg, Int.reducePow, Int.reduceEq, ↓reduceIte, Nat.reduceEqDiff, Nat.reduceAdd, Nat.reduceMul, Nat.reduceLeDiff, Nat.reduceSub, Nat.reduceLT, Int.reduceToNat, Int.reduceLT, Int.reduceLE, reduceCtorEq]
    · simp only [q6, hr1, go_sem, Int.reduceTMod, Int.reduceTDiv, Int.reduceDiv, Int.reduceMod, Int.reduceAdd, Int.reduceSub, Int.reduceMul, Int.reduceNeg, Int.reducePow, Int.reduceEq, ↓reduceIte, Nat.reduceEqDiff, Nat.reduceAdd, Nat.reduceMul, Nat.reduceLeDiff, Nat.reduceSub, Nat.reduceLT, Int.reduceToNat, Int.reduceLT, Int.reduceLE, reduceCtorEq]
    · simp only [go_sem, Int.reduceTMod, Int.reduceTDiv, Int.reduceDiv, Int.reduceMod, Int.reduceAdd, Int.reduceSub, Int.reduceMul, Int.reduceNeg, Int.reducePow, Int.reduceEq, ↓reduceIte, Nat.reduceEqDiff, Nat.reduceAdd, Nat.reduceMul, Nat.reduceLeDiff, Nat.reduceSub, Nat.reduceLT, Int.reduceToNat, Int.reduceLT, Int.reduceLE, reduceCtorEq]
      omega
    · intro id hid
      simp only
      rw [h1 id hid]
      simp only [na_0 (show id < N by omega), na_ne (show id < N by omega), qm id hid, go_sem, Int.reduceTMod, Int.reduceTDiv, Int.reduceDiv, Int.reduceMod, Int.reduceAdd, Int.reduceSub, Int.reduceMul, Int.reduceNeg, Int.reducePow, Int.reduceEq, ↓reduceIte, Nat.reduceEqDiff, Nat.reduceAdd, Nat.reduceMul, Nat.reduceLeDiff, Nat.reduceSub, Nat.reduceLT, Int.reduceToNat, Int.reduceLT, Int.reduceLE, reduceCtorEq]
    · simp only [go_sem, Int.reduceTMod, Int.reduceTDiv, Int.reduceDiv, Int.reduceMod, Int.reduceAdd, Int.reduceSub, Int.reduceMul, Int.reduceNeg, Int.reducePow, Int.reduceEq, ↓reduceIte, Nat.reduceEqDiff, Nat.reduceAdd, Nat.reduceMul, Nat.reduceLeDiff, Nat.reduceSub, Nat.reduceLT, Int.reduceToNat, Int.reduceLT, Int.reduceLE, reduceCtorEq]
      rw [take_snoc hp]
      exact ho
  · obtain ⟨e, M, N⟩ := s
    obtain ⟨q8, q7, q6, qn, qm, qo⟩ := hs
    simp only at q8 q7 q6 qn qm qo
    have c2 : ((l.length : Int) < (l.length : Int)) = False := eq_false (by omega)
    rw [List.take_length] at qo
    try simp only [r16_0, r16_1, r16_2, r16_3, r16_4, r16_5, r16_6, r16_7, c16, F16, l16_0, q8, q7, q6, c2, go_sem, Int.reduceTMod, Int.reduceTDiv, Int.reduceDiv, Int.reduceMod, Int.reduceAdd, Int.reduceSub, Int.reduceMul, Int.reduceNeg, Int.reducePow, Int.reduceEq, ↓reduceIte, Nat.reduceEqDiff, Nat.reduceAdd, Nat.reduceMul, Nat.reduceLeDiff, Nat.reduceSub, Nat.reduceLT, Int.reduceToNat, Int.reduceLT, Int.reduceLE, reduceCtorEq]
    repeat' ((first | refine FK_split (fun h_ => ?_) (fun h_ => ?_) | refine GK_split (fun h_ => ?_) (fun h_ => ?_) | refine ite_both (fun h_ => ?_) (fun h_ => ?_)) <;> (try simp only [decide_eq_true_eq, decide_eq_false_iff_not, Bool.not_true, Bool.not_false, Bool.not_eq_true', Bool.not_eq_false', Bool.not_eq_eq_eq_not, Decidable.not_not] at h_) <;> (try simp only [r16_0, r16_1, r16_2, r16_3, r16_4, r16_5, r16_6, r16_7, c16, F16, l16_0, q8, q7, q6, c2, h_, go_sem, Int.reduceTMod, Int.reduceTDiv, Int.reduceDiv, Int.reduceMod, Int.reduceAdd, Int.reduceSub, Int.reduceMul, Int.reduceNeg, Int.reducePow, Int.reduceEq, ↓reduceIte, Nat.reduceEqDiff, Nat.reduceAdd, Nat.reduceMul, Nat.reduceLeDiff, Nat.reduceSub, Nat.reduceLT, Int.reduceToNat, Int.reduceLT, Int.reduceLE, reduceCtorEq]))
    exact ⟨qo, qn⟩
  · simp only [List.take_zero, go_sem, Int.reduceTMod, Int.reduceTDiv, Int.reduceDiv, Int.reduceMod, Int.reduceAdd, Int.reduceSub, Int.reduceMul, Int.reduceNeg, Int.reducePow, Int.reduceEq, ↓reduceIte, Nat.reduceEqDiff, Nat.reduceAdd, Nat.reduceMul, Nat.reduceLeDiff, Nat.reduceSub, Nat.reduceLT, Int.reduceToNat, Int.reduceLT, Int.reduceLE, reduceCtorEq]
    exact ⟨by omega, fun _ _ => trivial, OL.nil⟩

/- Rows of points without repeated ones walked: the reference's. Conditions: those that each theorem names. -/
open Go Go.Proofs
set_option linter.unusedSimpArgs false
set_option linter.unusedVariables false

theorem w_Plain (r : Reg) (l : List Pt) (m : Mem) (n : Nat) (hr : RPt m n r l) (hl : l.length < 4294967296) :
    Fn TA 41 [r, RB false] m n (fun r' m' n' => OPt n m' n' r' (pln l l.length) ∧ n ≤ n') := by
  refine Fn_ofK (fn := F41) rfl (by simp [F41]) ?_
  have hlen := hr.len
  try simp only [r41_0, r41_1, r41_2, r41_3, r41_5, r41_6, r41_4, r41_7, r41_8, r41_9, c41, F41, hlen, go_sem, Int.reduceTMod, Int.reduceTDiv, Int.reduceDiv, Int.reduceMod, Int.reduceAdd, Int.reduceSub, Int.reduceMul, Int.reduceNeg, Int.reducePow, Int.reduceEq, ↓reduceIte, Nat.reduceEqDiff, Nat.reduceAdd, Nat.reduceMul, Nat.reduceLeDiff, Nat.reduceSub, Nat.reduceLT, Int.reduceToNat, Int.reduceLT, Int.reduceLE, reduceCtorEq]
  repeat' ((first | refine FK_split (fun h_ => ?_) (fun h_ => ?_) | refine GK_split (fun h_ => ?_) (fun h_ => ?_) | refine ite_both (fun h_ => ?_) (fun h_ => ?_)) <;> (try simp only [decide_eq_true_eq, decide_eq_false_iff_not, Bool.not_true, Bool.not_false, Bool.not_eq_true', Bool.not_eq_false', Bool.not_eq_eq_eq_not, Decidable.not_not] at h_) <;> (try simp only [r41_0, r41_1, r41_2, r41_3, r41_5, r41_6, r41_4, r41_7, r41_8, r41_9, c41, F41, hlen, h_, go_sem, Int.reduceTMod, Int.reduceTDiv, Int.reduceDiv, Int.reduceMod, Int.reduceAdd, Int.reduceSub, Int.reduceMul, Int.reduceNeg, Int.reducePow, Int.reduceEq, ↓reduceIte, Nat.reduceEqDiff, Nat.reduceAdd, Nat.reduceMul, Nat.reduceLeDiff, Nat.reduceSub, Nat.reduceLT, Int.reduceToNat, Int.reduceLT, Int.reduceLE, reduceCtorEq]))
  refine XK_iter (inv := fun i s => s.e 6 = RI i ∧ s.e 0 = r ∧ s.e 1 = RB false ∧ n ≤ s.n ∧ (∀ id, id < n → s.m id = m id) ∧ OPt n s.m s.n (s.e 5) (pln l i)) l.length
    (fun L _ => ⟨fun i hi s hs next => ?_, fun s hs => ?_⟩) 0 (by omega) _ ?_
  · obtain ⟨e, M, N⟩ := s
    obtain ⟨q6, q0, q1, qn, qm, qo⟩ := hs
    simp only at q6 q0 q1 qn qm qo
    have hp : l[i]? = some l[i] := List.getElem?_eq_getElem hi
    obtain ⟨id, off, cap, hr1, hid, hrd⟩ := hr.at cs2 hp
    have c2 : ((i : Int) < (l.length : Int)) = True := eq_true (by omega)
    have c3 : (0 ≤ (i : Int)) = True := eq_true (by omega)
    have c7 : IntKind.i64.wrap ((i : Int) + 1) = ((i + 1 : Nat) : Int) := wr_nat (by omega)
    rw [hr1] at q0
    rw [← rd_same (qm id hid)] at hrd
    have hidN : id < N := by omega
    have n1 := na_0 hidN
    have hlp := pln_len l i
    by_cases i0 : i = 0
    · have hk := pln_keep hp (Or.inl i0)
      have c0 : ((i : Int) = 0) = True := eq_true (by omega)
      generalize l[i] = p at *
      try simp only [r41_0, r41_1, r41_2, r41_3, r41_5, r41_6, r41_4, r41_7, r41_8, r41_9, c41, F41, l41_0, l41_1, q6, q0, q1, c0, c2, c3, c7, hrd, n1, Int.toNat_natCast, go_sem, Int.reduceTMod, Int.reduceTDiv, Int.reduceDiv, Int.reduceMod, Int.reduceAdd, Int.reduceSub, Int.reduceMul, Int.reduceNeg, Int.reducePow, Int.reduceEq, ↓reduceIte, Nat.reduceEqDiff, Nat.reduceAdd, Nat.reduceMul, Nat.reduceLeDiff, Nat.reduceSub, Nat.reduceLT, Int.reduceToNat, Int.reduceLT, Int.reduceLE, reduceCtorEq]
      repeat' ((first | refine FK_split (fun h_ => ?_) (fun h_ => ?_) | refine GK_split (fun h_ => ?_) (fun h_ => ?_) | refine ite_both (fun h_ => ?_) (fun h_ => ?_)) <;> (try simp only [decide_eq_true_eq, decide_eq_false_iff_not, Bool.not_true, Bool.not_false, Bool.not_eq_true', Bool.not_eq_false', Bool.not_eq_eq_eq_not, Decidable.not_not] at h_) <;> (try simp only [r41_0, r41_1, r41_2, r41_3, r41_5, r41_6, r41_4, r41_7, r41_8, r41_9, c41, F41, l41_0, l41_1, q6, q0, q1, c0, c2, c3, c7, hrd, n1, Int.toNat_natCast, h_, go_sem, Int.reduceTMod, Int.reduceTDiv, Int.reduceDiv, Int.reduceMod, Int.reduceAdd, Int.reduceSub, Int.reduceMul, Int.reduceNeg, Int.reducePow, Int.reduceEq, ↓reduceIte, Nat.reduceEqDiff, Nat.reduceAdd, Nat.reduceMul, Nat.reduceLeDiff, Nat.reduceSub, Nat.reduceLT, Int.reduceToNat, Int.reduceLT, Int.reduceLE, reduceCtorEq]))
      refine K_push cs2 (by decide) (p := p) (o := true) qo (by omega) (fun id h1 h2 => by simp only [na_0 h2, na_ne h2, go_sem, Int.reduceTMod, Int.reduceTDiv, Int.reduceDiv, Int.reduceMod, Int.reduceAdd, Int.reduceSub, Int.reduceMul, Int.reduceNeg, Int.reducePow, Int.reduceEq, ↓reduceIte, Nat.reduceEqDiff, Nat.reduceAdd, Nat.reduceMul, Nat.reduceLeDiff, Nat.reduceSub, Nat.reduceLT, Int.reduceToNat, Int.reduceLT, Int.reduceLE, reduceCtorEq]) (by simp only [go_sem, Int.reduceTMod, Int.reduceTDiv, Int.reduceDiv, Int.reduceMod, Int.reduceAdd, Int.reduceSub, Int.reduceMul, Int.reduceNeg, Int.reducePow, Int.reduceEq, ↓reduceIte, Nat.reduceEqDiff, Nat.reduceAdd, Nat.reduceMul, Nat.reduceLeDiff, Nat.reduceSub, Nat.reduceLT, Int.reduceToNat, Int.reduceLT, Int.reduceLE, reduceCtorEq]) (by omega) (by omega) ?_
      intro r' m' ho h1 h2
      try simp only [r41_0, r41_1, r41_2, r41_3, r41_5, r41_6, r41_4, r41_7, r41_8, r41_9, c41, F41, q6, q0, q1, c7, go_sem, Int.reduceTMod, Int.reduceTDiv, Int.reduceDiv, Int.reduceMod, Int.reduceAdd, Int.reduceSub, Int.reduceMul, Int.reduceNeg, Int.reducePow, Int.reduceEq, ↓reduceIte, Nat.reduceEqDiff, Nat.reduceAdd, Nat.reduceMul, Nat.reduceLeDiff, Nat.reduceSub, Nat.reduceLT, Int.reduceToNat, Int.reduceLT, Int.reduceLE, reduceCtorEq]
      repeat' ((first | refine FK_split (fun h_ => ?_) (fun h_ => ?_) | refine GK_split (fun h_ => ?_) (fun h_ => ?_) | refine ite_both (fun h_ => ?_) (fun h_ => ?_)) <;> (try simp only [decide_eq_true_eq, decide_eq_false_iff_not, Bool.not_true, Bool.not_false, Bool.not_eq_true', Bool.not_eq_false', Bool.not_eq_eq_eq_not, Decidable.not_not] at h_) <;> (try simp only [r41_0, r41_1, r41_2, r41_3, r41_5, r41_6, r41_4, r41_7, r41_8, r41_9, c41, F41, q6, q0, q1, c7, h_, go_sem, Int.reduceTMod, Int.reduceTDiv, Int.reduceDiv, Int.reduceMod, Int.reduceAdd, Int.reduceSub, Int.reduceMul, Int.reduceNeg, Int.reducePow, Int.reduceEq, ↓reduceIte, Nat.reduceEqDiff, Nat.reduceAdd, Nat.reduceMul, Nat.reduceLeDiff, Nat.reduceSub, Nat.reduceLT, Int.reduceToNat, Int.reduceLT, Int.reduceLE, reduceCtorEq]))
      refine next _ ⟨?_, ?_, ?_, ?_, ?_, ?_⟩
      · simp only [go_sem, Int.reduceTMod, Int.reduceTDiv, Int.reduceDiv, Int.reduceMod, Int.reduceAdd, Int.reduceSub, Int.reduceMul, Int.reduceNeg, Int.reducePow, Int.reduceEq, ↓reduceIte, Nat.reduceEqDiff, Nat.reduceAdd, Nat.reduceMul, Nat.reduceLeDiff, Nat.reduceSub, Nat.reduceLT, Int.reduceToNat, Int.reduceLT, Int.reduceLE, reduceCtorEq]
      · simp only [q0, hr1, go_sem, Int.reduceTMod, Int.reduceTDiv, Int.reduceDiv, Int.reduceMod, Int.reduceAdd, Int.reduceSub, Int.reduceMul, Int.reduceNeg, Int.reducePow, Int.reduceEq, ↓reduceIte, Nat.reduceEqDiff, Nat.reduceAdd, Nat.reduceMul, Nat.reduceLeDiff, Nat.reduceSub, Nat.reduceLT, Int.reduceToNat, Int.reduceLT, Int.reduceLE, reduceCtorEq]
      · simp only [q1, go_sem, Int.reduceTMod, Int.reduceTDiv, Int.reduceDiv, Int.reduceMod, Int.reduceAdd, Int.reduceSub, Int.reduceMul, Int.reduceNeg, Int.reducePow, Int.reduceEq, ↓reduceIte, Nat.reduceEqDiff, Nat.reduceAdd, Nat.reduceMul, Nat.reduceLeDiff, Nat.reduceSub, Nat.reduceLT, Int.reduceToNat, Int.reduceLT, Int.reduceLE, reduceCtorEq]
      · simp only [go_sem, Int.reduceTMod, Int.reduceTDiv, Int.reduceDiv, Int.reduceMod, Int.reduceAdd, Int.reduceSub, Int.reduceMul, Int.reduceNeg, Int.reducePow, Int.reduceEq, ↓reduceIte, Nat.reduceEqDiff, Nat.reduceAdd, Nat.reduceMul, Nat.reduceLeDiff, Nat.reduceSub, Nat.reduceLT, Int.reduceToNat, Int.reduceLT, Int.reduceLE, reduceCtorEq]
        omega
      · intro id hid
        simp only
        rw [h1 id hid]
        simp only [na_0 (show id < N by omega), na_ne (show id < N by omega), qm id hid, go_sem, Int.reduceTMod, Int.reduceTDiv, Int.reduceDiv, Int.reduceMod, Int.reduceAdd, Int.reduceSub, Int.reduceMul, Int.reduceNeg, Int.reducePow, Int.reduceEq, ↓reduceIte, Nat.reduceEqDiff, Nat.reduceAdd, Nat.reduceMul, Nat.reduceLeDiff, Nat.reduceSub, Nat.reduceLT, Int.reduceToNat, Int.reduceLT, Int.reduceLE, reduceCtorEq]
      · simp only [go_sem, Int.reduceTMod, Int.reduceTDiv, Int.reduceDiv, Int.reduceMod, Int.reduceAdd, Int.reduceSub, Int.reduceMul, Int.reduceNeg, Int.reducePow, Int.reduceEq, ↓reduceIte, Nat.reduceEqDiff, Nat.reduceAdd, Nat.reduceMul, Nat.reduceLeDiff, Nat.reduceSub, Nat.reduceLT, Int.reduceToNat, Int.reduceLT, Int.reduceLE, reduceCtorEq]
        rw [hk]
        exact ho
    · have hp' : l[i - 1]? = some (l[i - 1]'(by omega)) := List.getElem?_eq_getElem (by omega)
      obtain ⟨id', off', cap', hr1', hid', hrd'⟩ := hr.at cs2 hp'
      rw [hr1] at hr1'
      simp only [Reg.one.injEq, Cell.sl.injEq, true_and] at hr1'
      obtain ⟨rfl, rfl, rfl, _⟩ := hr1'
      rw [← rd_same (qm id hid)] at hrd'
      have c0 : ((i : Int) = 0) = False := eq_false (by omega)
      have c5 : IntKind.i64.wrap ((i : Int) - 1) = ((i - 1 : Nat) : Int) := (wr_eq (by omega) (by omega)).trans (by omega)
      have c6 : (((i - 1 : Nat) : Int) < (l.length : Int)) = True := eq_true (by omega)
      have c8 : (0 ≤ ((i - 1 : Nat) : Int)) = True := eq_true (by omega)
      generalize hgp : l[i] = p at *
      generalize hgq : (l[i - 1]'(by omega)) = q at *
      by_cases e1 : p = q
      · have hk := pln_skip hp i0 (by rw [hp', e1])
        subst e1
        try simp only [r41_0, r41_1, r41_2, r41_3, r41_5, r41_6, r41_4, r41_7, r41_8, r41_9, c41, F41, l41_0, l41_1, q6, q0, q1, c0, c2, c3, c5, c6, c7, c8, hrd, hrd', n1, Int.toNat_natCast, go_sem, Int.reduceTMod, Int.reduceTDiv, Int.reduceDiv, Int.reduceMod, Int.reduceAdd, Int.reduceSub, Int.reduceMul, Int.reduceNeg, Int.reducePow, Int.reduceEq, ↓reduceIte, Nat.reduceEqDiff, Nat.reduceAdd, Nat.reduceMul, Nat.reduceLeDiff, Nat.reduceSub, Nat.reduceLT, Int.reduceToNat, Int.reduceLT, Int.reduceLE, reduceCtorEq]
        repeat' ((first | refine FK_split (fun h_ => ?_) (fun h_ => ?_) | refine GK_split (fun h_ => ?_) (fun h_ => ?_) | refine ite_both (fun h_ => ?_) (fun h_ => ?_)) <;> (try simp only [decide_eq_true_eq, decide_eq_false_iff_not, Bool.not_true, Bool.not_false, Bool.not_eq_true', Bool.not_eq_false', Bool.not_eq_eq_eq_not, Decidable.not_not] at h_) <;> (try simp only [r41_0, r41_1, r41_2, r41_3, r41_5, r41_6, r41_4, r41_7, r41_8, r41_9, c41, F41, l41_0, l41_1, q6, q0, q1, c0, c2, c3, c5, c6, c7, c8, hrd, hrd', n1, Int.toNat_natCast, h_, go_sem, Int.reduceTMod, Int.reduceTDiv, Int.reduceDiv, Int.reduceMod, Int.reduceAdd, Int.reduceSub, Int.reduceMul, Int.reduceNeg, Int.reducePow, Int.reduceEq, ↓reduceIte, Nat.reduceEqDiff, Nat.reduceAdd, Nat.reduceMul, Nat.reduceLeDiff, Nat.reduceSub, Nat.reduceLT, Int.reduceToNat, Int.reduceLT, Int.reduceLE, reduceCtorEq]))
        refine next _ ⟨?_, ?_, ?_, ?_, ?_, ?_⟩
        · simp only [go_sem, Int.reduceTMod, Int.reduceTDiv, Int.reduceDiv, Int.reduceMod, Int.reduceAdd, Int.reduceSub, Int.reduceMul, Int.reduceNeg, Int.reducePow, Int.reduceEq, ↓reduceIte, Nat.reduceEqDiff, Nat.reduceAdd, Nat.reduceMul, Nat.reduceLeDiff, Nat.reduceSub, Nat.reduceLT, Int.reduceToNat, Int.reduceLT, Int.reduceLE, reduceCtorEq]
        · simp only [q0, hr1, go_sem, Int.reduceTMod, Int.reduceTDiv, Int.reduceDiv, Int.reduceMod, Int.reduceAdd, Int.reduceSub, Int.reduceMul, Int.reduceNeg, Int.reducePow, Int.reduceEq, ↓reduceIte, Nat.reduceEqDiff, Nat.reduceAdd, Nat.reduceMul, Nat.reduceLeDiff, Nat.reduceSub, Nat.reduceLT, Int.reduceToNat, Int.reduceLT, Int.reduceLE, reduceCtorEq]
        · simp only [q1, go_sem, Int.reduceTMod, Int.reduceTDiv, Int.reduceDiv, Int.reduceMod, Int.reduceAdd, Int.reduceSub, Int.reduceMul, Int.reduceNeg, Int.reducePow, Int.reduceEq, ↓reduceIte, Nat.reduceEqDiff, Nat.reduceAdd, Nat.reduceMul, Nat.reduceLeDiff, Nat.reduceSub, Nat.reduceLT, Int.reduceToNat, Int.reduceLT, Int.reduceLE, reduceCtorEq]
        · simp only [go_sem, Int.reduceTMod, Int.reduceTDiv, Int.reduceDiv, Int.reduceMod, Int.reduceAdd, Int.reduceSub, Int.reduceMul, Int.reduceNeg, Int.reducePow, Int.reduceEq, ↓reduceIte, Nat.reduceEqDiff, Nat.reduceAdd, Nat.reduceMul, Nat.reduceLeDiff, Nat.reduceSub, Nat.reduceLT, Int.reduceToNat, Int.reduceLT, Int.reduceLE, reduceCtorEq]
          omega
        · exact qm
        · simp only [go_sem, Int.reduceTMod, Int.reduceTDiv, Int.reduceDiv, Int.reduceMod, Int.reduceAdd, Int.reduceSub, Int.reduceMul, Int.reduceNeg, Int.reducePow, Int.reduceEq, ↓reduceIte, Nat.reduceEqDiff, Nat.reduceAdd, Nat.reduceMul, Nat.reduceLeDiff, Nat.reduceSub, Nat.reduceLT, Int.reduceToNat, Int.reduceLT, Int.reduceLE, reduceCtorEq]
          rw [hk]
          exact qo
      · have hk := pln_keep hp (Or.inr (by rw [hp']; intro h; exact e1 (Option.some.inj h).symm))
        have hne := pt_nb e1
        try simp only [r41_0, r41_1, r41_2, r41_3, r41_5, r41_6, r41_4, r41_7, r41_8, r41_9, c41, F41, l41_0, l41_1, q6, q0, q1, c0, c2, c3, c5, c6, c7, c8, hrd, hrd', n1, hne, Int.toNat_natCast, go_sem, Int.reduceTMod, Int.reduceTDiv, Int.reduceDiv, Int.reduceMod, Int.reduceAdd, Int.reduceSub, Int.reduceMul, Int.reduceNeg, Int.reducePow, Int.reduceEq, ↓reduceIte, Nat.reduceEqDiff, Nat.reduceAdd, Nat.reduceMul, Nat.reduceLeDiff, Nat.reduceSub, Nat.reduceLT, Int.reduceToNat, Int.reduceLT, Int.reduceLE, reduceCtorEq]
        repeat' ((first | refine FK_split (fun h_ => ?_) (fun h_ => ?_) | refine GK_split (fun h_ => ?_) (fun h_ => ?_) | refine ite_both (fun h_ => ?_) (fun h_ => ?_)) <;> (try simp only [decide_eq_true_eq, decide_eq_false_iff_not, Bool.not_true, Bool.not_false, Bool.not_eq_true', Bool.not_eq_false', Bool.not_eq_eq_eq_not, Decidable.not_not] at h_) <;> (try simp only [r41_0, r41_1, r41_2, r41_3, r41_5, r41_6, r41_4, r41_7, r41_8, r41_9, c41, F41, l41_0, l41_1, q6, q0, q1, c0, c2, c3, c5, c6, c7, c8, hrd, hrd', n1, hne, Int.toNat_natCast, h_, go_sem, Int.reduceTMod, Int.reduceTDiv, Int.reduceDiv, Int.reduceMod, Int.reduceAdd, Int.reduceSub, Int.reduceMul, Int.reduceNeg, Int.reducePow, Int.reduceEq, ↓reduceIte, Nat.reduceEqDiff, Nat.reduceAdd, Nat.reduceMul, Nat.reduceLeDiff, Nat.reduceSub, Nat.reduceLT, Int.reduceToNat, Int.reduceLT, Int.reduceLE, reduceCtorEq]))
        refine K_push cs2 (by decide) (p := p) (o := true) qo (by omega) (fun id h1 h2 => by simp only [na_0 h2, na_ne h2, go_sem, Int.reduceTMod, Int.reduceTDiv, Int.reduceDiv, Int.reduceMod, Int.reduceAdd, Int.reduceSub, Int.reduceMul, Int.reduceNeg, Int.reducePow, Int.reduceEq, ↓reduceIte, Nat.reduceEqDiff, Nat.reduceAdd, Nat.reduceMul, Nat.reduceLeDiff, Nat.reduceSub, Nat.reduceLT, Int.reduceToNat, Int.reduceLT, Int.reduceLE, reduceCtorEq]) (by simp only [go_sem, Int.reduceTMod, Int.reduceTDiv, Int.reduceDiv, Int.reduceMod, Int.reduceAdd, Int.reduceSub, Int.reduceMul, Int.reduceNeg, Int.reducePow, Int.reduceEq, ↓reduceIte, Nat.reduceEqDiff, Nat.reduceAdd, Nat.reduceMul, Nat.reduceLeDiff, Nat.reduceSub, Nat.reduceLT, Int.reduceToNat, Int.reduceLT, Int.reduceLE, reduceCtorEq]) (by omega) (by omega) ?_
        intro r' m' ho h1 h2
        try simp only [r41_0, r41_1, r41_2, r41_3, r41_5, r41_6, r41_4, r41_7, r41_8, r41_9, c41, F41, q6, q0, q1, c7, go_sem, Int.reduceTMod, Int.reduceTDiv, Int.reduceDiv, Int.reduceMod, Int.reduceAdd, Int.reduceSub, Int.reduceMul, Int.reduceNeg, Int.reducePow, Int.reduceEq, ↓reduceIte, Nat.reduceEqDiff, Nat.reduceAdd, Nat.reduceMul, Nat.reduceLeDiff, Nat.reduceSub, Nat.reduceLT, Int.reduceToNat, Int.reduceLT, Int.reduceLE, reduceCtorEq]
        repeat' ((first | refine FK_split (fun h_ => ?_) (fun h_ => ?_) | refine GK_split (fun h_ => ?_) (fun h_ => ?_) | refine ite_both (fun h_ => ?_) (fun h_ => ?_)) <;> (try simp only [decide_eq_true_eq, decide_eq_false_iff_not, Bool.not_true, Bool.not_false, Bool.not_eq_true', Bool.not_eq_false', Bool.not_eq_eq_eq_not, Decidable.not_not] at h_) <;> (try simp only [r41_0, r41_1, r41_2, r41_3, r41_5, r41_6, r41_4, r41_7, r41_8, r41_9, c41, F41, q6, q0, q1, c7, h_, go_sem, Int.reduceTMod, Int.reduceTDiv, Int.reduceDiv, Int.reduceMod, Int.reduceAdd, Int.reduceSub, Int.reduceMul, Int.reduceNeg, Int.reducePow, Int.reduceEq, ↓reduceIte, Nat.reduceEqDiff, Nat.reduceAdd, Nat.reduceMul, Nat.reduceLeDiff, Nat.reduceSub, Nat.reduceLT, Int.reduceToNat, Int.reduceLT, Int.reduceLE, reduceCtorEq]))
        refine next _ ⟨?_, ?_, ?_, ?_, ?_, ?_⟩
        · simp only [go_sem, Int.reduceTMod, Int.reduceTDiv, Int.reduceDiv, Int.reduceMod, Int.reduceAdd, Int.reduceSub, Int.reduceMul, Int.reduceNeg, Int.reducePow, Int.reduceEq, ↓reduceIte, Nat.reduceEqDiff, Nat.reduceAdd, Nat.reduceMul, Nat.reduceLeDiff, Nat.reduceSub, Nat.reduceLT, Int.reduceToNat, Int.reduceLT, Int.reduceLE, reduceCtorEq]
        · simp only [q0, hr1, go_sem, Int.reduceTMod, Int.reduceTDiv, Int.reduceDiv, Int.reduceMod, Int.reduceAdd, Int.reduceSub, Int.reduceMul, Int.reduceNeg, Int.reducePow, Int.reduceEq, ↓reduceIte, Nat.reduceEqDiff, Nat.reduceAdd, Nat.reduceMul, Nat.reduceLeDiff, Nat.reduceSub, Nat.reduceLT, Int.reduceToNat, Int.reduceLT, Int.reduceLE, reduceCtorEq]
        · simp only [q1, go_sem, Int.reduceTMod, Int.reduceTDiv, Int.reduceDiv, Int.reduceMod, Int.reduceAdd, Int.reduceSub, Int.reduceMul, Int.reduceNeg, Int.reducePow, Int.reduceEq, ↓reduceIte, Nat.reduceEqDiff, Nat.reduceAdd, Nat.reduceMul, Nat.reduceLeDiff, Nat.reduceSub, Nat.reduceLT, Int.reduceToNat, Int.reduceLT, Int.reduceLE, reduceCtorEq]
        · simp only [go_sem, Int.reduceTMod, Int.reduceTDiv, Int.reduceDiv, Int.reduceMod, Int.reduceAdd, Int.reduceSub, Int.reduceMul, Int.reduceNeg, Int.reducePow, Int.reduceEq, ↓reduceIte, Nat.reduceEqDiff, Nat.reduceAdd, Nat.reduceMul, Nat.reduceLeDiff, Nat.reduceSub, Nat.reduceLT, Int.reduceToNat, Int.reduceLT, Int.reduceLE, reduceCtorEq]
          omega
        · intro id hid
          simp only
          rw [h1 id hid]
          simp only [na_0 (show id < N by omega), na_ne (show id < N by omega), qm id hid, go_sem, Int.reduceTMod, Int.reduceTDiv, Int.reduceDiv, Int.reduceMod, Int.reduceAdd, Int.reduceSub, Int.reduceMul, Int.reduceNeg, Int.reducePow, Int.reduceEq, ↓reduceIte, Nat.reduceEqDiff, Nat.reduceAdd, Nat.reduceMul, Nat.reduceLeDiff, Nat.reduceSub, Nat.reduceLT, Int.reduceToNat, Int.reduceLT, Int.reduceLE, reduceCtorEq]
        · simp only [go_sem, Int.reduceTMod, Int.reduceTDiv, Int.reduceDiv, Int.reduceMod, Int.reduceAdd, Int.reduceSub, Int.reduceMul, Int.reduceNeg, Int.reducePow, Int.reduceEq, ↓reduceIte, Nat.reduceEqDiff, Nat.reduceAdd, Nat.reduceMul, Nat.reduceLeDiff, Nat.reduceSub, Nat.reduceLT, Int.reduceToNat, Int.reduceLT, Int.reduceLE, reduceCtorEq]
          rw [hk]
          exact ho
  · obtain ⟨e, M, N⟩ := s
    obtain ⟨q6, q0, q1, qn, qm, qo⟩ := hs
    simp only at q6 q0 q1 qn qm qo
    have c2 : ((l.length : Int) < (l.length : Int)) = False := eq_false (by omega)
    have ht : List.take l.length l = l := List.take_length
    try simp only [r41_0, r41_1, r41_2, r41_3, r41_5, r41_6, r41_4, r41_7, r41_8, r41_9, c41, F41, l41_0, l41_1, q6, q0, q1, hlen, c2, XK_loop, go_sem, Int.reduceTMod, Int.reduceTDiv, Int.reduceDiv, Int.reduceMod, Int.reduceAdd, Int.reduceSub, Int.reduceMul, Int.reduceNeg, Int.reducePow, Int.reduceEq, ↓reduceIte, Nat.reduceEqDiff, Nat.reduceAdd, Nat.reduceMul, Nat.reduceLeDiff, Nat.reduceSub, Nat.reduceLT, Int.reduceToNat, Int.reduceLT, Int.reduceLE, reduceCtorEq]
    repeat' ((first | refine FK_split (fun h_ => ?_) (fun h_ => ?_) | refine GK_split (fun h_ => ?_) (fun h_ => ?_) | refine ite_both (fun h_ => ?_) (fun h_ => ?_)) <;> (try simp only [decide_eq_true_eq, decide_eq_false_iff_not, Bool.not_true, Bool.not_false, Bool.not_eq_true', Bool.not_eq_false', Bool.not_eq_eq_eq_not, Decidable.not_not] at h_) <;> (try simp only [r41_0, r41_1, r41_2, r41_3, r41_5, r41_6, r41_4, r41_7, r41_8, r41_9, c41, F41, l41_0, l41_1, q6, q0, q1, hlen, c2, XK_loop, h_, go_sem, Int.reduceTMod, Int.reduceTDiv, Int.reduceDiv, Int.reduceMod, Int.reduceAdd, Int.reduceSub, Int.reduceMul, Int.reduceNeg, Int.reducePow, Int.reduceEq, ↓reduceIte, Nat.reduceEqDiff, Nat.reduceAdd, Nat.reduceMul, Nat.reduceLeDiff, Nat.reduceSub, Nat.reduceLT, Int.reduceToNat, Int.reduceLT, Int.reduceLE, reduceCtorEq]))
    exact ⟨qo, qn⟩
  · simp only [go_sem, Int.reduceTMod, Int.reduceTDiv, Int.reduceDiv, Int.reduceMod, Int.reduceAdd, Int.reduceSub, Int.reduceMul, Int.reduceNeg, Int.reducePow, Int.reduceEq, ↓reduceIte, Nat.reduceEqDiff, Nat.reduceAdd, Nat.reduceMul, Nat.reduceLeDiff, Nat.reduceSub, Nat.reduceLT, Int.reduceToNat, Int.reduceLT, Int.reduceLE, reduceCtorEq]
    exact ⟨by omega, fun _ _ => trivial, OL.nil⟩

/- Rows of points cloned, and packed in place. Conditions: those that each theorem names. -/
open Go Go.Proofs
set_option linter.unusedSimpArgs false
set_option linter.unusedVariables false

/-- A slice of the call's own: the front of its block. -/
def PL (base : Nat) (m : Mem) (n : Nat) (r : Reg) (l : List Pt) : Prop :=
  (r = rnil ∧ l = []) ∨ ∃ id cap b, r = .one (.sl id 0 l.length cap 2) ∧ base ≤ id ∧ id < n ∧ m id = some ⟨b, true⟩ ∧ rd m id 0 (l.length * 2) = some (l.flatMap Pt.cs) ∧ (cap = none ∨ l = [])
theorem PL.rl {base : Nat} {m : Mem} {n : Nat} {r : Reg} {l : List Pt} (h : PL base m n r l) : RPt m n r l := by
  rcases h with h | ⟨id, cap, b, h1, h2, h3, h4, h5, h6⟩
  · exact Or.inl h
  · exact Or.inr ⟨id, 0, cap, h1, h3, h5⟩
theorem w_Clone (r : Reg) (l : List Pt) (m : Mem) (n : Nat) (hr : RPt m n r l) (hl : l.length < 4294967296) :
    Fn TA 36 [r] m n (fun r' m' n' => ((r' = rnil ∧ l = []) ∨ ∃ id cap, r' = .one (.sl id 0 l.length cap 2) ∧ n ≤ id ∧ id < n' ∧ m' id = some ⟨l.flatMap Pt.cs, true⟩ ∧ (cap = none ∨ l = [])) ∧ n ≤ n') := by
  refine Fn_ofK (fn := F36) rfl (by simp [F36]) ?_
  rcases hr with ⟨rfl, rfl⟩ | ⟨id, off, cap, rfl, hid, hrd⟩
  · skip
    try simp only [r36_0, r36_1, r36_2, r36_3, c36, F36, go_sem, Int.reduceTMod, Int.reduceTDiv, Int.reduceDiv, Int.reduceMod, Int.reduceAdd, Int.reduceSub, Int.reduceMul, Int.reduceNeg, Int.reducePow, Int.reduceEq, ↓reduceIte, Nat.reduceEqDiff, Nat.reduceAdd, Nat.reduceMul, Nat.reduceLeDiff, Nat.reduceSub, Nat.reduceLT, Int.reduceToNat, Int.reduceLT, Int.reduceLE, reduceCtorEq]
    repeat' ((first | refine FK_split (fun h_ => ?_) (fun h_ => ?_) | refine GK_split (fun h_ => ?_) (fun h_ => ?_) | refine ite_both (fun h_ => ?_) (fun h_ => ?_)) <;> (try simp only [decide_eq_true_eq, decide_eq_false_iff_not, Bool.not_true, Bool.not_false, Bool.not_eq_true', Bool.not_eq_false', Bool.not_eq_eq_eq_not, Decidable.not_not] at h_) <;> (try simp only [r36_0, r36_1, r36_2, r36_3, c36, F36, h_, go_sem, Int.reduceTMod, Int.reduceTDiv, Int.reduceDiv, Int.reduceMod, Int.reduceAdd, Int.reduceSub, Int.reduceMul, Int.reduceNeg, Int.reducePow, Int.reduceEq, ↓reduceIte, Nat.reduceEqDiff, Nat.reduceAdd, Nat.reduceMul, Nat.reduceLeDiff, Nat.reduceSub, Nat.reduceLT, Int.reduceToNat, Int.reduceLT, Int.reduceLE, reduceCtorEq]))
    exact ⟨Or.inl trivial, by omega⟩
  · have n1 := na_0 hid
    cases l with
    | nil =>
      simp only [List.length_nil, Nat.zero_mul, List.flatMap_nil] at hrd
      try simp only [r36_0, r36_1, r36_2, r36_3, c36, F36, evApp, newsOf, hrd, n1, List.length_nil, Nat.zero_mul, go_sem, Int.reduceTMod, Int.reduceTDiv, Int.reduceDiv, Int.reduceMod, Int.reduceAdd, Int.reduceSub, Int.reduceMul, Int.reduceNeg, Int.reducePow, Int.reduceEq, ↓reduceIte, Nat.reduceEqDiff, Nat.reduceAdd, Nat.reduceMul, Nat.reduceLeDiff, Nat.reduceSub, Nat.reduceLT, Int.reduceToNat, Int.reduceLT, Int.reduceLE, reduceCtorEq]
      repeat' ((first | refine FK_split (fun h_ => ?_) (fun h_ => ?_) | refine GK_split (fun h_ => ?_) (fun h_ => ?_) | refine ite_both (fun h_ => ?_) (fun h_ => ?_)) <;> (try simp only [decide_eq_true_eq, decide_eq_false_iff_not, Bool.not_true, Bool.not_false, Bool.not_eq_true', Bool.not_eq_false', Bool.not_eq_eq_eq_not, Decidable.not_not] at h_) <;> (try simp only [r36_0, r36_1, r36_2, r36_3, c36, F36, evApp, newsOf, hrd, n1, List.length_nil, Nat.zero_mul, h_, go_sem, Int.reduceTMod, Int.reduceTDiv, Int.reduceDiv, Int.reduceMod, Int.reduceAdd, Int.reduceSub, Int.reduceMul, Int.reduceNeg, Int.reducePow, Int.reduceEq, ↓reduceIte, Nat.reduceEqDiff, Nat.reduceAdd, Nat.reduceMul, Nat.reduceLeDiff, Nat.reduceSub, Nat.reduceLT, Int.reduceToNat, Int.reduceLT, Int.reduceLE, reduceCtorEq]))
      exact ⟨Or.inr ⟨n, some 0, rfl, by omega, by omega, by simp only [List.flatMap_nil, go_sem, Int.reduceTMod, Int.reduceTDiv, Int.reduceDiv, Int.reduceMod, Int.reduceAdd, Int.reduceSub, Int.reduceMul, Int.reduceNeg, Int.reducePow, Int.reduceEq, ↓reduceIte, Nat.reduceEqDiff, Nat.reduceAdd, Nat.reduceMul, Nat.reduceLeDiff, Nat.reduceSub, Nat.reduceLT, Int.reduceToNat, Int.reduceLT, Int.reduceLE, reduceCtorEq], Or.inr trivial⟩, by omega⟩
    | cons p l =>
      rw [List.length_cons] at hrd
      have z1 : (l.length + 1 = 0) = False := eq_false (by omega)
      have z2 : (l.length + 1 ≤ 4294967296) = True := eq_true (by rw [List.length_cons] at hl; omega)
      have z3 : (0 + (l.length + 1) ≤ 0) = False := eq_false (by omega)
      try simp only [r36_0, r36_1, r36_2, r36_3, c36, F36, evApp, newsOf, hrd, n1, List.length_cons, z1, z2, z3, Nat.zero_add, Nat.zero_mul, go_sem, Int.reduceTMod, Int.reduceTDiv, Int.reduceDiv, Int.reduceMod, Int.reduceAdd, Int.reduceSub, Int.reduceMul, Int.reduceNeg, Int.reducePow, Int.reduceEq, ↓reduceIte, Nat.reduceEqDiff, Nat.reduceAdd, Nat.reduceMul, Nat.reduceLeDiff, Nat.reduceSub, Nat.reduceLT, Int.reduceToNat, Int.reduceLT, Int.reduceLE, reduceCtorEq]
      repeat' ((first | refine FK_split (fun h_ => ?_) (fun h_ => ?_) | refine GK_split (fun h_ => ?_) (fun h_ => ?_) | refine ite_both (fun h_ => ?_) (fun h_ => ?_)) <;> (try simp only [decide_eq_true_eq, decide_eq_false_iff_not, Bool.not_true, Bool.not_false, Bool.not_eq_true', Bool.not_eq_false', Bool.not_eq_eq_eq_not, Decidable.not_not] at h_) <;> (try simp only [r36_0, r36_1, r36_2, r36_3, c36, F36, evApp, newsOf, hrd, n1, List.length_cons, z1, z2, z3, Nat.zero_add, Nat.zero_mul, h_, go_sem, Int.reduceTMod, Int.reduceTDiv, Int.reduceDiv, Int.reduceMod, Int.reduceAdd, Int.reduceSub, Int.reduceMul, Int.reduceNeg, Int.reducePow, Int.reduceEq, ↓reduceIte, Nat.reduceEqDiff, Nat.reduceAdd, Nat.reduceMul, Nat.reduceLeDiff, Nat.reduceSub, Nat.reduceLT, Int.reduceToNat, Int.reduceLT, Int.reduceLE, reduceCtorEq]))
      exact ⟨Or.inr ⟨n + 1, none, rfl, by omega, by omega, by simp only [List.flatMap_nil, go_sem, Int.reduceTMod, Int.reduceTDiv, Int.reduceDiv, Int.reduceMod, Int.reduceAdd, Int.reduceSub, Int.reduceMul, Int.reduceNeg, Int.reducePow, Int.reduceEq, ↓reduceIte, Nat.reduceEqDiff, Nat.reduceAdd, Nat.reduceMul, Nat.reduceLeDiff, Nat.reduceSub, Nat.reduceLT, Int.reduceToNat, Int.reduceLT, Int.reduceLE, reduceCtorEq], Or.inl rfl⟩, by omega⟩

/- Rows of points packed in place. Conditions: those that each theorem names. -/
open Go Go.Proofs
set_option linter.unusedSimpArgs false
set_option linter.unusedVariables false

theorem setL_len' : ∀ (cs l : List Cell) (o : Nat), (setL l o cs).length = l.length
  | [], l, o => rfl
  | c :: cs, l, o => by rw [setL, setL_len' cs]; simp
theorem setL_take : ∀ (cs l : List Cell) (o k : Nat), k ≤ o → (setL l o cs).take k = l.take k
  | [], l, o, k, _ => rfl
  | c :: cs, l, o, k, h => by
    rw [setL, setL_take cs _ _ _ (by omega), List.take_set]
    exact List.set_eq_of_length_le (by rw [List.length_take]; omega)
theorem setL_mid (a t : List Cell) (x y u v : Cell) : setL (a ++ x :: y :: t) a.length [u, v] = a ++ u :: v :: t := by
  simp [setL]
theorem wr_pt {m : Mem} {id : Nat} {a t : List Pt} {x p : Pt} (h : m id = some ⟨(a ++ x :: t).flatMap Pt.cs, true⟩) : wr m id (a.length * 2) [I p.x, I p.y] = some (upd m id (some ⟨(a ++ p :: t).flatMap Pt.cs, true⟩)) := by
  have hl := flatMap_len Pt.cs 2 cs2 a
  have ht := flatMap_len Pt.cs 2 cs2 t
  unfold wr
  rw [h]
  simp only [List.flatMap_append, List.flatMap_cons]
  rw [if_pos]
  · rw [← hl]
    congr 3
    have := setL_mid (a.flatMap Pt.cs) (t.flatMap Pt.cs) (I x.x) (I x.y) (I p.x) (I p.y)
    simp only [Blk.mk.injEq, and_true]
    exact this
  · refine ⟨trivial, ?_⟩
    simp only [List.length_append, hl, ht, List.length_cons, List.length_nil]
    omega
theorem set_pt {a t : List Pt} {x p : Pt} : (((a ++ x :: t).flatMap Pt.cs).set (a.length * 2) (I p.x)).set (a.length * 2 + 1) (I p.y) = (a ++ p :: t).flatMap Pt.cs := by
  have hl := flatMap_len Pt.cs 2 cs2 a
  have := setL_mid (a.flatMap Pt.cs) (t.flatMap Pt.cs) (I x.x) (I x.y) (I p.x) (I p.y)
  rw [hl] at this
  simp only [List.flatMap_append, List.flatMap_cons]
  exact this
theorem rd_pt {m : Mem} {id : Nat} {c : List Pt} {j : Nat} {p : Pt} {o : Bool} (h : m id = some ⟨c.flatMap Pt.cs, o⟩) (hj : c[j]? = some p) : rd m id (j * 2) 2 = some p.cs := by
  have hl := flatMap_len Pt.cs 2 cs2 c
  have h3 : rd m id 0 (c.length * 2) = some (c.flatMap Pt.cs) := by
    rw [rd_of h]
    unfold rdB
    rw [if_pos (by rw [hl]; omega), List.drop_zero, ← hl, List.take_length]
  have := rd_at cs2 h3 hj
  rw [Nat.zero_add] at this
  exact this
theorem rd_front {m : Mem} {id : Nat} {a : List Pt} {c : List Cell} {o : Bool} (h : m id = some ⟨c, o⟩) (hc : c.take (a.length * 2) = a.flatMap Pt.cs) : rd m id 0 (a.length * 2) = some (a.flatMap Pt.cs) := by
  have hl := flatMap_len Pt.cs 2 cs2 a
  rw [rd_of h]
  unfold rdB
  have h2 : a.length * 2 ≤ c.length := by
    have := congrArg List.length hc
    rw [List.length_take, hl] at this
    omega
  rw [if_pos (by show 0 + a.length * 2 ≤ c.length; omega), List.drop_zero]
  exact congrArg some hc

theorem inR_nat {i h : Nat} (hi : i ≤ h) : inR (RI i) h = some i := by
  simp [inR, ix]
  omega
theorem bnds_lo {len i : Nat} (h : i ≤ len) : bnds len none (some (RI i)) none none = some (i, len, none) := by
  simp [bnds, bMax, bHigh, bLow, inR_nat h]
theorem bnds_hi {len i : Nat} (h : i ≤ len) : bnds len none none (some (RI i)) none = some (0, i, none) := by
  simp [bnds, bMax, bHigh, bLow, inR_nat h]

theorem w_Compact (id : Nat) (cap : Option Nat) (l : List Pt) (m : Mem) (n : Nat) (hid : id < n) (hm : m id = some ⟨l.flatMap Pt.cs, true⟩) (hcap : cap = none ∨ l = []) (hl : l.length < 4294967296) :
    Fn TA 35 [.one (.sl id 0 l.length cap 2)] m n (fun r' m' n' => PL id m' n' r' (pln l l.length) ∧ n' = n ∧ ∀ i, i ≠ id → m' i = m i) := by
  refine Fn_ofK (fn := F35) rfl (by simp [F35]) ?_
  have hfull : ∀ _ : Nat, pln l l.length = l → PL id m n (.one (.sl id 0 l.length cap 2)) (pln l l.length) := fun _ h => by
    rw [h]
    refine Or.inr ⟨id, cap, _, rfl, Nat.le_refl _, hid, hm, ?_, hcap⟩
    exact rd_front hm (by rw [← flatMap_len Pt.cs 2 cs2 l, List.take_length])
  by_cases h2 : l.length < 2
  · have h2' : ((l.length : Int) < 2) = True := eq_true (by omega)
    have e : pln l l.length = l := by
      match l, h2 with
      | [], _ => rfl
      | [p], _ => rfl
    have hf := hfull 0 e
    try simp only [r35_0, r35_1, r35_2, r35_3, r35_4, r35_6, r35_7, r35_8, r35_9, r35_11, r35_12, r35_13, r35_10, r35_14, r35_15, r35_5, r35_16, c35, F35, h2', go_sem, Int.reduceTMod, Int.reduceTDiv, Int.reduceDiv, Int.reduceMod, Int.reduceAdd, Int.reduceSub, Int.reduceMul, Int.reduceNeg, Int.reducePow, Int.reduceEq, ↓reduceIte, Nat.reduceEqDiff, Nat.reduceAdd, Nat.reduceMul, Nat.reduceLeDiff, Nat.reduceSub, Nat.reduceLT, Int.reduceToNat, Int.reduceLT, Int.reduceLE, reduceCtorEq]
    repeat' ((first | refine FK_split (fun h_ => ?_) (fun h_ => ?_) | refine GK_split (fun h_ => ?_) (fun h_ => ?_) | refine ite_both (fun h_ => ?_) (fun h_ => ?_)) <;> (try simp only [decide_eq_true_eq, decide_eq_false_iff_not, Bool.not_true, Bool.not_false, Bool.not_eq_true', Bool.not_eq_false', Bool.not_eq_eq_eq_not, Decidable.not_not] at h_) <;> (try simp only [r35_0, r35_1, r35_2, r35_3, r35_4, r35_6, r35_7, r35_8, r35_9, r35_11, r35_12, r35_13, r35_10, r35_14, r35_15, r35_5, r35_16, c35, F35, h2', h_, go_sem, Int.reduceTMod, Int.reduceTDiv, Int.reduceDiv, Int.reduceMod, Int.reduceAdd, Int.reduceSub, Int.reduceMul, Int.reduceNeg, Int.reducePow, Int.reduceEq, ↓reduceIte, Nat.reduceEqDiff, Nat.reduceAdd, Nat.reduceMul, Nat.reduceLeDiff, Nat.reduceSub, Nat.reduceLT, Int.reduceToNat, Int.reduceLT, Int.reduceLE, reduceCtorEq]))
    exact ⟨hf, fun _ _ => trivial⟩
  · have h2' : ((l.length : Int) < 2) = False := eq_false (by omega)
    obtain rfl : cap = none := hcap.resolve_right (fun h => h2 (by rw [h]; decide))
    try simp only [r35_0, r35_1, r35_2, r35_3, r35_4, r35_6, r35_7, r35_8, r35_9, r35_11, r35_12, r35_13, r35_10, r35_14, r35_15, r35_5, r35_16, c35, F35, h2', go_sem, Int.reduceTMod, Int.reduceTDiv, Int.reduceDiv, Int.reduceMod, Int.reduceAdd, Int.reduceSub, Int.reduceMul, Int.reduceNeg, Int.reducePow, Int.reduceEq, ↓reduceIte, Nat.reduceEqDiff, Nat.reduceAdd, Nat.reduceMul, Nat.reduceLeDiff, Nat.reduceSub, Nat.reduceLT, Int.reduceToNat, Int.reduceLT, Int.reduceLE, reduceCtorEq]
    repeat' ((first | refine FK_split (fun h_ => ?_) (fun h_ => ?_) | refine GK_split (fun h_ => ?_) (fun h_ => ?_) | refine ite_both (fun h_ => ?_) (fun h_ => ?_)) <;> (try simp only [decide_eq_true_eq, decide_eq_false_iff_not, Bool.not_true, Bool.not_false, Bool.not_eq_true', Bool.not_eq_false', Bool.not_eq_eq_eq_not, Decidable.not_not] at h_) <;> (try simp only [r35_0, r35_1, r35_2, r35_3, r35_4, r35_6, r35_7, r35_8, r35_9, r35_11, r35_12, r35_13, r35_10, r35_14, r35_15, r35_5, r35_16, c35, F35, h2', h_, go_sem, Int.reduceTMod, Int.reduceTDiv, Int.reduceDiv, Int.reduceMod, Int.reduceAdd, Int.reduceSub, Int.reduceMul, Int.reduceNeg, Int.reducePow, Int.reduceEq, ↓reduceIte, Nat.reduceEqDiff, Nat.reduceAdd, Nat.reduceMul, Nat.reduceLeDiff, Nat.reduceSub, Nat.reduceLT, Int.reduceToNat, Int.reduceLT, Int.reduceLE, reduceCtorEq]))
    refine XK_iter (inv := fun i s => s.e 3 = RI i ∧ s.e 0 = .one (.sl id 0 l.length none 2) ∧ s.m = m ∧ s.n = n ∧ 1 ≤ i ∧ pln l i = l.take i) l.length
      (fun L _ => ⟨fun i hi s hs next => ?_, fun s hs => ?_⟩) 1 (by omega) _ ?_
    · obtain ⟨e, M, N⟩ := s
      obtain ⟨q3, q0, qm, qn, q1, qp⟩ := hs
      simp only at q3 q0 qm qn q1 qp
      subst qm
      subst qn
      have hp : l[i]? = some l[i] := List.getElem?_eq_getElem hi
      have hp' : l[i - 1]? = some (l[i - 1]'(by omega)) := List.getElem?_eq_getElem (by omega)
      have hrd := rd_pt hm hp
      have hrd' := rd_pt hm hp'
      have c2 : ((i : Int) < (l.length : Int)) = True := eq_true (by omega)
      have c3 : (0 ≤ (i : Int)) = True := eq_true (by omega)
      have c5 : IntKind.i64.wrap ((i : Int) - 1) = ((i - 1 : Nat) : Int) := (wr_eq (by omega) (by omega)).trans (by omega)
      have c6 : (((i - 1 : Nat) : Int) < (l.length : Int)) = True := eq_true (by omega)
      have c7 : IntKind.i64.wrap ((i : Int) + 1) = ((i + 1 : Nat) : Int) := wr_nat (by omega)
      have c8 : (0 ≤ ((i - 1 : Nat) : Int)) = True := eq_true (by omega)
      by_cases e1 : l[i] = (l[i - 1]'(by omega))
      · have hk := pln_skip hp (by omega) (by rw [hp', e1])
        rw [qp] at hk
        have heb := pt_eb e1
        generalize hgp : l[i] = p at *
        generalize hgq : (l[i - 1]'(by omega)) = q at *
        have c9 : i ≤ l.length := by omega
        try simp only [r35_0, r35_1, r35_2, r35_3, r35_4, r35_6, r35_7, r35_8, r35_9, r35_11, r35_12, r35_13, r35_10, r35_14, r35_15, r35_5, r35_16, c35, F35, l35_0, l35_1, q3, q0, c2, c3, c5, c6, c7, c8, c9, hrd, hrd', heb, Int.toNat_natCast, bnds_lo c9, Option.map_none, Option.map_some, Nat.zero_add, go_sem, Int.reduceTMod, Int.reduceTDiv, Int.reduceDiv, Int.reduceMod, Int.reduceAdd, Int.reduceSub, Int.reduceMul, Int.reduceNeg, Int.reducePow, Int.reduceEq, ↓reduceIte, Nat.reduceEqDiff, Nat.reduceAdd, Nat.reduceMul, Nat.reduceLeDiff, Nat.reduceSub, Nat.reduceLT, Int.reduceToNat, Int.reduceLT, Int.reduceLE, reduceCtorEq]
        repeat' ((first | refine FK_split (fun h_ => ?_) (fun h_ => ?_) | refine GK_split (fun h_ => ?_) (fun h_ => ?_) | refine ite_both (fun h_ => ?_) (fun h_ => ?_)) <;> (try simp only [decide_eq_true_eq, decide_eq_false_iff_not, Bool.not_true, Bool.not_false, Bool.not_eq_true', Bool.not_eq_false', Bool.not_eq_eq_eq_not, Decidable.not_not] at h_) <;> (try simp only [r35_0, r35_1, r35_2, r35_3, r35_4, r35_6, r35_7, r35_8, r35_9, r35_11, r35_12, r35_13, r35_10, r35_14, r35_15, r35_5, r35_16, c35, F35, l35_0, l35_1, q3, q0, c2, c3, c5, c6, c7, c8, c9, hrd, hrd', heb, Int.toNat_natCast, bnds_lo c9, Option.map_none, Option.map_some, Nat.zero_add, h_, go_sem, Int.reduceTMod, Int.reduceTDiv, Int.reduceDiv, Int.reduceMod, Int.reduceAdd, Int.reduceSub, Int.reduceMul, Int.reduceNeg, Int.reducePow, Int.reduceEq, ↓reduceIte, Nat.reduceEqDiff, Nat.reduceAdd, Nat.reduceMul, Nat.reduceLeDiff, Nat.reduceSub, Nat.reduceLT, Int.reduceToNat, Int.reduceLT, Int.reduceLE, reduceCtorEq]))
        clear next hfull
        refine XK_iter (inv := fun k s => s.e 5 = RI k ∧ s.e 4 = .one (.sl id (i * 2) (l.length - i) none 2) ∧ s.e 0 = .one (.sl id 0 l.length none 2) ∧ s.n = N ∧ 1 ≤ k ∧ s.e 3 = RI (pln l (i + k)).length ∧ (pln l (i + k)).length < i + k ∧
            s.m id = some ⟨(pln l (i + k) ++ l.drop (pln l (i + k)).length).flatMap Pt.cs, true⟩ ∧ ∀ j, j ≠ id → s.m j = M j) (l.length - i)
          (fun L _ => ⟨fun k hkk s hs next => ?_, fun s hs => ?_⟩) 1 (by omega) _ ?_
        · obtain ⟨e', M', N'⟩ := s
          obtain ⟨t5, t4, t0, tn, t1, t3, tq, tm, tf⟩ := hs
          simp only at t5 t4 t0 tn t1 t3 tq tm tf
          subst tn
          have hj : i + k < l.length := by omega
          have hu : l[i + k]? = some l[i + k] := List.getElem?_eq_getElem hj
          have hv : l[i + k - 1]? = some (l[i + k - 1]'(by omega)) := List.getElem?_eq_getElem (by omega)
          have cu : (pln l (i + k) ++ l.drop (pln l (i + k)).length)[i + k]? = some l[i + k] := by
            rw [List.getElem?_append_right (by omega), List.getElem?_drop, show (pln l (i + k)).length + (i + k - (pln l (i + k)).length) = i + k by omega, hu]
          have cv : (pln l (i + k) ++ l.drop (pln l (i + k)).length)[i + k - 1]? = some (l[i + k - 1]'(by omega)) := by
            rw [List.getElem?_append_right (by omega), List.getElem?_drop, show (pln l (i + k)).length + (i + k - 1 - (pln l (i + k)).length) = i + k - 1 by omega, hv]
          have ru := rd_pt tm cu
          have rv := rd_pt tm cv
          rw [show (i + k) * 2 = i * 2 + k * 2 by omega] at ru
          rw [show (i + k - 1) * 2 = i * 2 + (k - 1) * 2 by omega] at rv
          have d2 : ((k : Int) < ((l.length - i : Nat) : Int)) = True := eq_true (by omega)
          have d3 : (0 ≤ (k : Int)) = True := eq_true (by omega)
          have d5 : IntKind.i64.wrap ((k : Int) - 1) = ((k - 1 : Nat) : Int) := (wr_eq (by omega) (by omega)).trans (by omega)
          have d6 : (((k - 1 : Nat) : Int) < ((l.length - i : Nat) : Int)) = True := eq_true (by omega)
          have d7 : IntKind.i64.wrap ((k : Int) + 1) = ((k + 1 : Nat) : Int) := wr_nat (by omega)
          have d8 : (0 ≤ ((k - 1 : Nat) : Int)) = True := eq_true (by omega)
          by_cases e2 : l[i + k] = (l[i + k - 1]'(by omega))
          · have hk2 := pln_skip hu (by omega) (by rw [hv, e2])
            have heb2 := pt_eb e2
            generalize l[i + k] = u at *
            generalize (l[i + k - 1]'(by omega)) = v at *
            try simp only [r35_0, r35_1, r35_2, r35_3, r35_4, r35_6, r35_7, r35_8, r35_9, r35_11, r35_12, r35_13, r35_10, r35_14, r35_15, r35_5, r35_16, c35, F35, l35_0, l35_1, t5, t4, t0, t3, d2, d3, d5, d6, d7, d8, ru, rv, heb2, Int.toNat_natCast, Nat.zero_add, go_sem, Int.reduceTMod, Int.reduceTDiv, Int.reduceDiv, Int.reduceMod, Int.reduceAdd, Int.reduceSub, Int.reduceMul, Int.reduceNeg, Int.reducePow, Int.reduceEq, ↓reduceIte, Nat.reduceEqDiff, Nat.reduceAdd, Nat.reduceMul, Nat.reduceLeDiff, Nat.reduceSub, Nat.reduceLT, Int.reduceToNat, Int.reduceLT, Int.reduceLE, reduceCtorEq]
            repeat' ((first | refine FK_split (fun h_ => ?_) (fun h_ => ?_) | refine GK_split (fun h_ => ?_) (fun h_ => ?_) | refine ite_both (fun h_ => ?_) (fun h_ => ?_)) <;> (try simp only [decide_eq_true_eq, decide_eq_false_iff_not, Bool.not_true, Bool.not_false, Bool.not_eq_true', Bool.not_eq_false', Bool.not_eq_eq_eq_not, Decidable.not_not] at h_) <;> (try simp only [r35_0, r35_1, r35_2, r35_3, r35_4, r35_6, r35_7, r35_8, r35_9, r35_11, r35_12, r35_13, r35_10, r35_14, r35_15, r35_5, r35_16, c35, F35, l35_0, l35_1, t5, t4, t0, t3, d2, d3, d5, d6, d7, d8, ru, rv, heb2, Int.toNat_natCast, Nat.zero_add, h_, go_sem, Int.reduceTMod, Int.reduceTDiv, Int.reduceDiv, Int.reduceMod, Int.reduceAdd, Int.reduceSub, Int.reduceMul, Int.reduceNeg, Int.reducePow, Int.reduceEq, ↓reduceIte, Nat.reduceEqDiff, Nat.reduceAdd, Nat.reduceMul, Nat.reduceLeDiff, Nat.reduceSub, Nat.reduceLT, Int.reduceToNat, Int.reduceLT, Int.reduceLE, reduceCtorEq]))
            refine next _ ⟨?_, ?_, ?_, ?_, ?_, ?_, ?_, ?_, ?_⟩
            all_goals (try rw [← Nat.add_assoc]) <;> (try rw [hk2])
            · simp only [go_sem, Int.reduceTMod, Int.reduceTDiv, Int.reduceDiv, Int.reduceMod, Int.reduceAdd, Int.reduceSub, Int.reduceMul, Int.reduceNeg, Int.reducePow, Int.reduceEq, ↓reduceIte, Nat.reduceEqDiff, Nat.reduceAdd, Nat.reduceMul, Nat.reduceLeDiff, Nat.reduceSub, Nat.reduceLT, Int.reduceToNat, Int.reduceLT, Int.reduceLE, reduceCtorEq]
            · simp only [t4, go_sem, Int.reduceTMod, Int.reduceTDiv, Int.reduceDiv, Int.reduceMod, Int.reduceAdd, Int.reduceSub, Int.reduceMul, Int.reduceNeg, Int.reducePow, Int.reduceEq, ↓reduceIte, Nat.reduceEqDiff, Nat.reduceAdd, Nat.reduceMul, Nat.reduceLeDiff, Nat.reduceSub, Nat.reduceLT, Int.reduceToNat, Int.reduceLT, Int.reduceLE, reduceCtorEq]
            · simp only [t0, go_sem, Int.reduceTMod, Int.reduceTDiv, Int.reduceDiv, Int.reduceMod, Int.reduceAdd, Int.reduceSub, Int.reduceMul, Int.reduceNeg, Int.reducePow, Int.reduceEq, ↓reduceIte, Nat.reduceEqDiff, Nat.reduceAdd, Nat.reduceMul, Nat.reduceLeDiff, Nat.reduceSub, Nat.reduceLT, Int.reduceToNat, Int.reduceLT, Int.reduceLE, reduceCtorEq]
            · rfl
            · omega
            · simp only [t3, go_sem, Int.reduceTMod, Int.reduceTDiv, Int.reduceDiv, Int.reduceMod, Int.reduceAdd, Int.reduceSub, Int.reduceMul, Int.reduceNeg, Int.reducePow, Int.reduceEq, ↓reduceIte, Nat.reduceEqDiff, Nat.reduceAdd, Nat.reduceMul, Nat.reduceLeDiff, Nat.reduceSub, Nat.reduceLT, Int.reduceToNat, Int.reduceLT, Int.reduceLE, reduceCtorEq]
            · omega
            · exact tm
            · exact tf
          · have hk2 := pln_keep hu (Or.inr (by rw [hv]; intro h; exact e2 (Option.some.inj h).symm))
            have heb2 := pt_nb e2
            have hdrop : l.drop (pln l (i + k)).length = (l[(pln l (i + k)).length]'(by omega)) :: l.drop ((pln l (i + k)).length + 1) := List.drop_eq_getElem_cons (by omega)
            have tm' := tm
            rw [hdrop] at tm'
            have hset := @set_pt (pln l (i + k)) (l.drop ((pln l (i + k)).length + 1)) (l[(pln l (i + k)).length]'(by omega)) l[i + k]
            have hlX := flatMap_len Pt.cs 2 cs2 (pln l (i + k) ++ (l[(pln l (i + k)).length]'(by omega)) :: l.drop ((pln l (i + k)).length + 1))
            rw [List.length_append, List.length_cons] at hlX
            obtain ⟨X, hX⟩ : ∃ X, X = (pln l (i + k) ++ (l[(pln l (i + k)).length]'(by omega)) :: l.drop ((pln l (i + k)).length + 1)).flatMap Pt.cs := ⟨_, rfl⟩
            rw [← hX] at hset hlX tm'
            have hle : ((pln l (i + k)).length * 2 + 2 ≤ X.length) = True := eq_true (by omega)
            have d9 : (((pln l (i + k)).length : Int) < (l.length : Int)) = True := eq_true (by omega)
            have d10 : (0 ≤ ((pln l (i + k)).length : Int)) = True := eq_true (by omega)
            have d11 : IntKind.i64.wrap (((pln l (i + k)).length : Int) + 1) = (((pln l (i + k)).length + 1 : Nat) : Int) := wr_nat (by omega)
            generalize l[i + k] = u at *
            generalize (l[i + k - 1]'(by omega)) = v at *
            try simp only [r35_0, r35_1, r35_2, r35_3, r35_4, r35_6, r35_7, r35_8, r35_9, r35_11, r35_12, r35_13, r35_10, r35_14, r35_15, r35_5, r35_16, c35, F35, l35_0, l35_1, t5, t4, t0, t3, d2, d3, d5, d6, d7, d8, d9, d10, d11, ru, rv, heb2, tm', hle, hset, Int.toNat_natCast, Nat.zero_add, go_sem, Int.reduceTMod, Int.reduceTDiv, Int.reduceDiv, Int.reduceMod, Int.reduceAdd, Int.reduceSub, Int.reduceMul, Int.reduceNeg, Int.reducePow, Int.reduceEq, ↓reduceIte, Nat.reduceEqDiff, Nat.reduceAdd, Nat.reduceMul, Nat.reduceLeDiff, Nat.reduceSub, Nat.reduceLT, Int.reduceToNat, Int.reduceLT, Int.reduceLE, reduceCtorEq]
            repeat' ((first | refine FK_split (fun h_ => ?_) (fun h_ => ?_) | refine GK_split (fun h_ => ?_) (fun h_ => ?_) | refine ite_both (fun h_ => ?_) (fun h_ => ?_)) <;> (try simp only [decide_eq_true_eq, decide_eq_false_iff_not, Bool.not_true, Bool.not_false, Bool.not_eq_true', Bool.not_eq_false', Bool.not_eq_eq_eq_not, Decidable.not_not] at h_) <;> (try simp only [r35_0, r35_1, r35_2, r35_3, r35_4, r35_6, r35_7, r35_8, r35_9, r35_11, r35_12, r35_13, r35_10, r35_14, r35_15, r35_5, r35_16, c35, F35, l35_0, l35_1, t5, t4, t0, t3, d2, d3, d5, d6, d7, d8, d9, d10, d11, ru, rv, heb2, tm', hle, hset, Int.toNat_natCast, Nat.zero_add, h_, go_sem, Int.reduceTMod, Int.reduceTDiv, Int.reduceDiv, Int.reduceMod, Int.reduceAdd, Int.reduceSub, Int.reduceMul, Int.reduceNeg, Int.reducePow, Int.reduceEq, ↓reduceIte, Nat.reduceEqDiff, Nat.reduceAdd, Nat.reduceMul, Nat.reduceLeDiff, Nat.reduceSub, Nat.reduceLT, Int.reduceToNat, Int.reduceLT, Int.reduceLE, reduceCtorEq]))
            refine next _ ⟨?_, ?_, ?_, ?_, ?_, ?_, ?_, ?_, ?_⟩
            all_goals (try rw [← Nat.add_assoc]) <;> (try rw [hk2])
            · simp only [go_sem, Int.reduceTMod, Int.reduceTDiv, Int.reduceDiv, Int.reduceMod, Int.reduceAdd, Int.reduceSub, Int.reduceMul, Int.reduceNeg, Int.reducePow, Int.reduceEq, ↓reduceIte, Nat.reduceEqDiff, Nat.reduceAdd, Nat.reduceMul, Nat.reduceLeDiff, Nat.reduceSub, Nat.reduceLT, Int.reduceToNat, Int.reduceLT, Int.reduceLE, reduceCtorEq]
            · simp only [t4, go_sem, Int.reduceTMod, Int.reduceTDiv, Int.reduceDiv, Int.reduceMod, Int.reduceAdd, Int.reduceSub, Int.reduceMul, Int.reduceNeg, Int.reducePow, Int.reduceEq, ↓reduceIte, Nat.reduceEqDiff, Nat.reduceAdd, Nat.reduceMul, Nat.reduceLeDiff, Nat.reduceSub, Nat.reduceLT, Int.reduceToNat, Int.reduceLT, Int.reduceLE, reduceCtorEq]
            · simp only [t0, go_sem, Int.reduceTMod, Int.reduceTDiv, Int.reduceDiv, Int.reduceMod, Int.reduceAdd, Int.reduceSub, Int.reduceMul, Int.reduceNeg, Int.reducePow, Int.reduceEq, ↓reduceIte, Nat.reduceEqDiff, Nat.reduceAdd, Nat.reduceMul, Nat.reduceLeDiff, Nat.reduceSub, Nat.reduceLT, Int.reduceToNat, Int.reduceLT, Int.reduceLE, reduceCtorEq]
            · rfl
            · omega
            · simp only [List.length_append, go_sem, Int.reduceTMod, Int.reduceTDiv, Int.reduceDiv, Int.reduceMod, Int.reduceAdd, Int.reduceSub, Int.reduceMul, Int.reduceNeg, Int.reducePow, Int.reduceEq, ↓reduceIte, Nat.reduceEqDiff, Nat.reduceAdd, Nat.reduceMul, Nat.reduceLeDiff, Nat.reduceSub, Nat.reduceLT, Int.reduceToNat, Int.reduceLT, Int.reduceLE, reduceCtorEq]
            · simp only [List.length_append, List.length_cons, List.length_nil]
              omega
            · simp only [List.length_append, List.length_cons, List.length_nil, Nat.zero_add]
              simp only [go_sem, Int.reduceTMod, Int.reduceTDiv, Int.reduceDiv, Int.reduceMod, Int.reduceAdd, Int.reduceSub, Int.reduceMul, Int.reduceNeg, Int.reducePow, Int.reduceEq, ↓reduceIte, Nat.reduceEqDiff, Nat.reduceAdd, Nat.reduceMul, Nat.reduceLeDiff, Nat.reduceSub, Nat.reduceLT, Int.reduceToNat, Int.reduceLT, Int.reduceLE, reduceCtorEq]
              rw [List.append_assoc]
              rfl
            · intro j hj
              simp only [hj, go_sem, Int.reduceTMod, Int.reduceTDiv, Int.reduceDiv, Int.reduceMod, Int.reduceAdd, Int.reduceSub, Int.reduceMul, Int.reduceNeg, Int.reducePow, Int.reduceEq, ↓reduceIte, Nat.reduceEqDiff, Nat.reduceAdd, Nat.reduceMul, Nat.reduceLeDiff, Nat.reduceSub, Nat.reduceLT, Int.reduceToNat, Int.reduceLT, Int.reduceLE, reduceCtorEq]
              exact tf j hj
        · obtain ⟨e', M', N'⟩ := s
          obtain ⟨t5, t4, t0, tn, t1, t3, tq, tm, tf⟩ := hs
          simp only at t5 t4 t0 tn t1 t3 tq tm tf
          rw [show i + (l.length - i) = l.length by omega] at t3 tq tm
          have d2 : (((l.length - i : Nat) : Int) < ((l.length - i : Nat) : Int)) = False := eq_false (by omega)
          have hlX := flatMap_len Pt.cs 2 cs2 (pln l l.length ++ l.drop (pln l l.length).length)
          rw [List.length_append, List.length_drop] at hlX
          have hfr : ((pln l l.length ++ l.drop (pln l l.length).length).flatMap Pt.cs).take ((pln l l.length).length * 2) = (pln l l.length).flatMap Pt.cs := by
            rw [List.flatMap_append, ← flatMap_len Pt.cs 2 cs2 (pln l l.length), List.take_left']
            rfl
          obtain ⟨X, hX⟩ : ∃ X, X = (pln l l.length ++ l.drop (pln l l.length).length).flatMap Pt.cs := ⟨_, rfl⟩
          rw [← hX] at hlX tm hfr
          have hb1 := bnds_lo (len := l.length) (i := (pln l l.length).length) (by omega)
          have hb2 := bnds_hi (len := l.length) (i := (pln l l.length).length) (by omega)
          have z0 : (l.length - (pln l l.length).length = 0) = False := eq_false (by omega)
          obtain ⟨Z, hZ⟩ : ∃ Z, Z = (List.replicate (l.length - (pln l l.length).length) [Cell.sc (Value.int .i64 0), Cell.sc (Value.int .i64 0)]).flatten := ⟨_, rfl⟩
          have hlZ : Z.length = (l.length - (pln l l.length).length) * 2 := by rw [hZ]; simp [List.length_flatten]
          have hle : ((pln l l.length).length * 2 + Z.length ≤ X.length) = True := eq_true (by omega)
          try simp only [r35_0, r35_1, r35_2, r35_3, r35_4, r35_6, r35_7, r35_8, r35_9, r35_11, r35_12, r35_13, r35_10, r35_14, r35_15, r35_5, r35_16, c35, F35, l35_0, l35_1, t5, t4, t0, t3, d2, hb1, hb2, z0, tm, ← hZ, hle, Option.map_none, Option.map_some, Nat.zero_add, Nat.zero_mul, Nat.sub_zero, go_sem, Int.reduceTMod, Int.reduceTDiv, Int.reduceDiv, Int.reduceMod, Int.reduceAdd, Int.reduceSub, Int.reduceMul, Int.reduceNeg, Int.reducePow, Int.reduceEq, ↓reduceIte, Nat.reduceEqDiff, Nat.reduceAdd, Nat.reduceMul, Nat.reduceLeDiff, Nat.reduceSub, Nat.reduceLT, Int.reduceToNat, Int.reduceLT, Int.reduceLE, reduceCtorEq]
          repeat' ((first | refine FK_split (fun h_ => ?_) (fun h_ => ?_) | refine GK_split (fun h_ => ?_) (fun h_ => ?_) | refine ite_both (fun h_ => ?_) (fun h_ => ?_)) <;> (try simp only [decide_eq_true_eq, decide_eq_false_iff_not, Bool.not_true, Bool.not_false, Bool.not_eq_true', Bool.not_eq_false', Bool.not_eq_eq_eq_not, Decidable.not_not] at h_) <;> (try simp only [r35_0, r35_1, r35_2, r35_3, r35_4, r35_6, r35_7, r35_8, r35_9, r35_11, r35_12, r35_13, r35_10, r35_14, r35_15, r35_5, r35_16, c35, F35, l35_0, l35_1, t5, t4, t0, t3, d2, hb1, hb2, z0, tm, ← hZ, hle, Option.map_none, Option.map_some, Nat.zero_add, Nat.zero_mul, Nat.sub_zero, h_, go_sem, Int.reduceTMod, Int.reduceTDiv, Int.reduceDiv, Int.reduceMod, Int.reduceAdd, Int.reduceSub, Int.reduceMul, Int.reduceNeg, Int.reducePow, Int.reduceEq, ↓reduceIte, Nat.reduceEqDiff, Nat.reduceAdd, Nat.reduceMul, Nat.reduceLeDiff, Nat.reduceSub, Nat.reduceLT, Int.reduceToNat, Int.reduceLT, Int.reduceLE, reduceCtorEq]))
          refine ⟨Or.inr ⟨id, none, _, rfl, Nat.le_refl _, by omega, upd_same _ _ _, ?_, Or.inl rfl⟩, tn, fun j hj => ?_⟩
          · refine rd_front (upd_same _ _ _) ?_
            rw [setL_take _ _ _ _ (Nat.le_refl _), hfr]
          · rw [if_neg hj]
            exact tf j hj
        · simp only [go_sem, Int.reduceTMod, Int.reduceTDiv, Int.reduceDiv, Int.reduceMod, Int.reduceAdd, Int.reduceSub, Int.reduceMul, Int.reduceNeg, Int.reducePow, Int.reduceEq, ↓reduceIte, Nat.reduceEqDiff, Nat.reduceAdd, Nat.reduceMul, Nat.reduceLeDiff, Nat.reduceSub, Nat.reduceLT, Int.reduceToNat, Int.reduceLT, Int.reduceLE, reduceCtorEq]
          have hmin : min i l.length = i := Nat.min_eq_left (by omega)
          rw [hk]
          simp only [List.length_take, hmin, List.take_append_drop]
          exact ⟨q0, q3, by omega, hm, fun _ _ => trivial⟩
      · have hk := pln_keep hp (Or.inr (by rw [hp']; intro h; exact e1 (Option.some.inj h).symm))
        rw [qp] at hk
        have heb := pt_nb e1
        have hts := take_snoc hp
        generalize hgp : l[i] = p at *
        generalize hgq : (l[i - 1]'(by omega)) = q at *
        try simp only [r35_0, r35_1, r35_2, r35_3, r35_4, r35_6, r35_7, r35_8, r35_9, r35_11, r35_12, r35_13, r35_10, r35_14, r35_15, r35_5, r35_16, c35, F35, l35_0, l35_1, q3, q0, c2, c3, c5, c6, c7, c8, hrd, hrd', heb, Int.toNat_natCast, Nat.zero_add, go_sem, Int.reduceTMod, Int.reduceTDiv, Int.reduceDiv, Int.reduceMod, Int.reduceAdd, Int.reduceSub, Int.reduceMul, Int.reduceNeg, Int.reducePow, Int.reduceEq, ↓reduceIte, Nat.reduceEqDiff, Nat.reduceAdd, Nat.reduceMul, Nat.reduceLeDiff, Nat.reduceSub, Nat.reduceLT, Int.reduceToNat, Int.reduceLT, Int.reduceLE, reduceCtorEq]
        repeat' ((first | refine FK_split (fun h_ => ?_) (fun h_ => ?_) | refine GK_split (fun h_ => ?_) (fun h_ => ?_) | refine ite_both (fun h_ => ?_) (fun h_ => ?_)) <;> (try simp only [decide_eq_true_eq, decide_eq_false_iff_not, Bool.not_true, Bool.not_false, Bool.not_eq_true', Bool.not_eq_false', Bool.not_eq_eq_eq_not, Decidable.not_not] at h_) <;> (try simp only [r35_0, r35_1, r35_2, r35_3, r35_4, r35_6, r35_7, r35_8, r35_9, r35_11, r35_12, r35_13, r35_10, r35_14, r35_15, r35_5, r35_16, c35, F35, l35_0, l35_1, q3, q0, c2, c3, c5, c6, c7, c8, hrd, hrd', heb, Int.toNat_natCast, Nat.zero_add, h_, go_sem, Int.reduceTMod, Int.reduceTDiv, Int.reduceDiv, Int.reduceMod, Int.reduceAdd, Int.reduceSub, Int.reduceMul, Int.reduceNeg, Int.reducePow, Int.reduceEq, ↓reduceIte, Nat.reduceEqDiff, Nat.reduceAdd, Nat.reduceMul, Nat.reduceLeDiff, Nat.reduceSub, Nat.reduceLT, Int.reduceToNat, Int.reduceLT, Int.reduceLE, reduceCtorEq]))
        refine next _ ⟨?_, ?_, ?_, ?_, ?_, ?_⟩
        · simp only [go_sem, Int.reduceTMod, Int.reduceTDiv, Int.reduceDiv, Int.reduceMod, Int.reduceAdd, Int.reduceSub, Int.reduceMul, Int.reduceNeg, Int.reducePow, Int.reduceEq, ↓reduceIte, Nat.reduceEqDiff, Nat.reduceAdd, Nat.reduceMul, Nat.reduceLeDiff, Nat.reduceSub, Nat.reduceLT, Int.reduceToNat, Int.reduceLT, Int.reduceLE, reduceCtorEq]
        · simp only [q0, go_sem, Int.reduceTMod, Int.reduceTDiv, Int.reduceDiv, Int.reduceMod, Int.reduceAdd, Int.reduceSub, Int.reduceMul, Int.reduceNeg, Int.reducePow, Int.reduceEq, ↓reduceIte, Nat.reduceEqDiff, Nat.reduceAdd, Nat.reduceMul, Nat.reduceLeDiff, Nat.reduceSub, Nat.reduceLT, Int.reduceToNat, Int.reduceLT, Int.reduceLE, reduceCtorEq]
        · rfl
        · rfl
        · omega
        · rw [hk, hts]
    · obtain ⟨e, M, N⟩ := s
      obtain ⟨q3, q0, qm, qn, q1, qp⟩ := hs
      simp only at q3 q0 qm qn q1 qp
      subst qm
      subst qn
      have c2 : ((l.length : Int) < (l.length : Int)) = False := eq_false (by omega)
      rw [List.take_length] at qp
      have hf := hfull 0 qp
      try simp only [r35_0, r35_1, r35_2, r35_3, r35_4, r35_6, r35_7, r35_8, r35_9, r35_11, r35_12, r35_13, r35_10, r35_14, r35_15, r35_5, r35_16, c35, F35, l35_0, l35_1, q3, q0, c2, go_sem, Int.reduceTMod, Int.reduceTDiv, Int.reduceDiv, Int.reduceMod, Int.reduceAdd, Int.reduceSub, Int.reduceMul, Int.reduceNeg, Int.reducePow, Int.reduceEq, ↓reduceIte, Nat.reduceEqDiff, Nat.reduceAdd, Nat.reduceMul, Nat.reduceLeDiff, Nat.reduceSub, Nat.reduceLT, Int.reduceToNat, Int.reduceLT, Int.reduceLE, reduceCtorEq]
      repeat' ((first | refine FK_split (fun h_ => ?_) (fun h_ => ?_) | refine GK_split (fun h_ => ?_) (fun h_ => ?_) | refine ite_both (fun h_ => ?_) (fun h_ => ?_)) <;> (try simp only [decide_eq_true_eq, decide_eq_false_iff_not, Bool.not_true, Bool.not_false, Bool.not_eq_true', Bool.not_eq_false', Bool.not_eq_eq_eq_not, Decidable.not_not] at h_) <;> (try simp only [r35_0, r35_1, r35_2, r35_3, r35_4, r35_6, r35_7, r35_8, r35_9, r35_11, r35_12, r35_13, r35_10, r35_14, r35_15, r35_5, r35_16, c35, F35, l35_0, l35_1, q3, q0, c2, h_, go_sem, Int.reduceTMod, Int.reduceTDiv, Int.reduceDiv, Int.reduceMod, Int.reduceAdd, Int.reduceSub, Int.reduceMul, Int.reduceNeg, Int.reducePow, Int.reduceEq, ↓reduceIte, Nat.reduceEqDiff, Nat.reduceAdd, Nat.reduceMul, Nat.reduceLeDiff, Nat.reduceSub, Nat.reduceLT, Int.reduceToNat, Int.reduceLT, Int.reduceLE, reduceCtorEq]))
      exact ⟨hf, fun _ _ => trivial⟩
    · simp only [go_sem, Int.reduceTMod, Int.reduceTDiv, Int.reduceDiv, Int.reduceMod, Int.reduceAdd, Int.reduceSub, Int.reduceMul, Int.reduceNeg, Int.reducePow, Int.reduceEq, ↓reduceIte, Nat.reduceEqDiff, Nat.reduceAdd, Nat.reduceMul, Nat.reduceLeDiff, Nat.reduceSub, Nat.reduceLT, Int.reduceToNat, Int.reduceLT, Int.reduceLE, reduceCtorEq]
      match l, h2 with
      | p :: l, _ => exact rfl

/- Bars, discs and caps, both walked. Conditions: those that each theorem names. -/
open Go Go.Proofs
set_option linter.unusedSimpArgs false
set_option linter.unusedVariables false

noncomputable def sdQ (a b : Pt) (h : Int) : Pt := sdP (b.x - a.x) (b.y - a.y) h
noncomputable def ahQ (a b : Pt) (h : Int) : Pt := ahP (b.x - a.x) (b.y - a.y) h
def lsP (p q : Pt) : Pt := ⟨p.x - q.x, p.y - q.y⟩
def plP (p q : Pt) : Pt := ⟨p.x + q.x, p.y + q.y⟩
noncomputable def barQ (a b : Pt) (h : Int) : List Pt := [lsP a (sdQ a b h), lsP b (sdQ a b h), plP b (sdQ a b h), plP a (sdQ a b h)]
noncomputable def firstQ (a b : Pt) (h : Int) : List Pt := [lsP (lsP a (sdQ a b h)) (ahQ a b h), lsP a (sdQ a b h), plP a (sdQ a b h), lsP (plP a (sdQ a b h)) (ahQ a b h)]
noncomputable def lastQ (a b : Pt) (h : Int) : List Pt := [lsP b (sdQ a b h), plP (lsP b (sdQ a b h)) (ahQ a b h), plP (plP b (sdQ a b h)) (ahQ a b h), plP b (sdQ a b h)]
abbrev longQ (a b : Pt) : Bool := longB (b.x - a.x) (b.y - a.y)
theorem rd_unfrz {m m' : Mem} {n id off k : Nat} (h : id < n) : rd (unfrz m n m') id off k = rd m id off k := rd_same (by rw [unfrz_at, if_pos h])
/-- A polygon, if it is right. -/
def PolyQ (ok : Bool) (l : List Pt) (n : Nat) (r' : Reg) (m' : Mem) (n' : Nat) : Prop :=
  ∃ x k, r' = .tup [.one x, RI k] ∧ k = (if ok = true then 0 else 10) ∧ (ok = true → RPt m' n' (.one x) l ∧ ∀ id, sid (.one x) = some id → n ≤ id)
/-- A polygon of the reference's. -/
def RefQ (l : List Pt) (n : Nat) (r' : Reg) (m' : Mem) (n' : Nat) : Prop :=
  n ≤ n' ∧ ∃ x, r' = .one x ∧ RPt m' n' (.one x) l ∧ ∀ id, sid (.one x) = some id → n ≤ id
def near16 (p : Pt) : Prop := (-32768 ≤ p.x ∧ p.x ≤ 32768) ∧ -32768 ≤ p.y ∧ p.y ≤ 32768
theorem pt_sub {a b : Pt} (h : a ≠ b) : b.x - a.x ≠ 0 ∨ b.y - a.y ≠ 0 := by
  rcases pt_ne h with h | h
  · exact Or.inl (by omega)
  · exact Or.inr (by omega)
theorem sdq_bd {a b : Pt} {h : Int} (hab : a ≠ b) (h1 : 1 ≤ h) (h2 : h ≤ 32768) (hl : longQ a b = false) : near16 (sdQ a b h) ∧ near16 (ahQ a b h) := by
  obtain ⟨_, bd⟩ := step_bd hl (pt_sub hab) h1 h2
  have b1 := bd _ (Or.inl rfl)
  have b2 := bd _ (Or.inr (Or.inl rfl))
  have b3 := bd _ (Or.inr (Or.inr rfl))
  exact ⟨⟨⟨b3.2.2.1, b3.2.2.2⟩, b1.2.2.1, b1.2.2.2⟩, ⟨b1.2.2.1, b1.2.2.2⟩, b2.2.2.1, b2.2.2.2⟩
theorem v_lessQ (p : Pt) (hp : (-2147581952 ≤ p.x ∧ p.x ≤ 2147581952) ∧ -2147581952 ≤ p.y ∧ p.y ≤ 2147581952) (q : Pt) (hq : near16 q) (m : Mem) (k : Nat) :
    callF TA 38 [.agg [I p.x, I p.y], .agg [I q.x, I q.y]] m k = some (.agg [I (lsP p q).x, I (lsP p q).y]) ∧ callF TA 27 [.agg [I p.x, I p.y], .agg [I q.x, I q.y]] m k = some (.agg [I (plP p q).x, I (plP p q).y]) := by
  unfold near16 at hq
  rw [v_less, v_plus]
  constructor
  · unfold lsP; rw [wr_eq (by omega) (by omega), wr_eq (by omega) (by omega)]
  · unfold plP; rw [wr_eq (by omega) (by omega), wr_eq (by omega) (by omega)]
theorem w_Bar {a b : Pt} {h : Int} (ha : inP a = true) (hb : inP b = true) (hab : a ≠ b) (h1 : 1 ≤ h) (h2 : h ≤ 32768) (m : Mem) (n : Nat) : Fn TA 19 [a.r, b.r, RI h] m n (PolyQ (!longQ a b && (barQ a b h).all inP) (barQ a b h) n) := by
  refine Fn_ofK (fn := F19) rfl (by simp [F19]) ?_
  have g1 : (decide (1 ≤ h) && decide (h ≤ 32768)) = true := by simp [h1, h2]
  have hnb := pt_nb hab
  have ha' : inP ⟨a.x, a.y⟩ = true := ha
  have hb' : inP ⟨b.x, b.y⟩ = true := hb
  cases hl : longQ a b
  · have vs := v_steps ha' hb' hl (pt_sub hab) h1 h2
    obtain ⟨b1, b2⟩ := sdq_bd hab h1 h2 hl
    have a16 : (-2147581952 ≤ a.x ∧ a.x ≤ 2147581952) ∧ -2147581952 ≤ a.y ∧ a.y ≤ 2147581952 := by have := inP_iff.1 ha'; omega
    have b16 : (-2147581952 ≤ b.x ∧ b.x ≤ 2147581952) ∧ -2147581952 ≤ b.y ∧ b.y ≤ 2147581952 := by have := inP_iff.1 hb'; omega
    have va := fun m k => v_lessQ a a16 (sdQ a b h) b1 m k
    have vb := fun m k => v_lessQ b b16 (sdQ a b h) b1 m k
    have va1 := fun m k => (va m k).1
    have va2 := fun m k => (va m k).2
    have vb1 := fun m k => (vb m k).1
    have vb2 := fun m k => (vb m k).2
    rw [show sdP (b.x - a.x) (b.y - a.y) h = sdQ a b h from rfl, show ahP (b.x - a.x) (b.y - a.y) h = ahQ a b h from rfl] at vs
    try simp only [r19_0, r19_1, r19_2, r19_3, r19_4, r19_5, r19_6, c19, F19, v_right, g1, v_PIn, ha', hb', hnb, vs, va1, va2, vb1, vb2, go_sem, Int.reduceTMod, Int.reduceTDiv, Int.reduceDiv, Int.reduceMod, Int.reduceAdd, Int.reduceSub, Int.reduceMul, Int.reduceNeg, Int.reducePow, Int.reduceEq, ↓reduceIte, Nat.reduceEqDiff, Nat.reduceAdd, Nat.reduceMul, Nat.reduceLeDiff, Nat.reduceSub, Nat.reduceLT, Int.reduceToNat, Int.reduceLT, Int.reduceLE, reduceCtorEq]
    repeat' ((first | refine FK_split (fun h_ => ?_) (fun h_ => ?_) | refine GK_split (fun h_ => ?_) (fun h_ => ?_) | refine ite_both (fun h_ => ?_) (fun h_ => ?_)) <;> (try simp only [decide_eq_true_eq, decide_eq_false_iff_not, Bool.not_true, Bool.not_false, Bool.not_eq_true', Bool.not_eq_false', Bool.not_eq_eq_eq_not, Decidable.not_not] at h_) <;> (try simp only [r19_0, r19_1, r19_2, r19_3, r19_4, r19_5, r19_6, c19, F19, v_right, g1, v_PIn, ha', hb', hnb, vs, va1, va2, vb1, vb2, h_, go_sem, Int.reduceTMod, Int.reduceTDiv, Int.reduceDiv, Int.reduceMod, Int.reduceAdd, Int.reduceSub, Int.reduceMul, Int.reduceNeg, Int.reducePow, Int.reduceEq, ↓reduceIte, Nat.reduceEqDiff, Nat.reduceAdd, Nat.reduceMul, Nat.reduceLeDiff, Nat.reduceSub, Nat.reduceLT, Int.reduceToNat, Int.reduceLT, Int.reduceLE, reduceCtorEq]))
    refine RK_callk ?_
    refine (w_room (.one (.sl (n + 4) 0 4 (some 4) 2)) (barQ a b h) _ _ (Or.inr ⟨n + 4, 0, some 4, rfl, by omega, ?_⟩) (by show 4 < 4294967296; decide)).mono ?_
    · rw [rd_frz]
      show rd _ (n + 4) 0 8 = _
      simp only [barQ, List.flatMap_cons, List.flatMap_nil, go_sem, Int.reduceTMod, Int.reduceTDiv, Int.reduceDiv, Int.reduceMod, Int.reduceAdd, Int.reduceSub, Int.reduceMul, Int.reduceNeg, Int.reducePow, Int.reduceEq, ↓reduceIte, Nat.reduceEqDiff, Nat.reduceAdd, Nat.reduceMul, Nat.reduceLeDiff, Nat.reduceSub, Nat.reduceLT, Int.reduceToNat, Int.reduceLT, Int.reduceLE, reduceCtorEq]
    · intro r1 m1 n1 hq
      obtain ⟨q1, q2, q3⟩ := hq
      subst q1
      subst q2
      subst q3
      cases hin : (barQ a b h).all inP
      · simp only [Bool.false_eq_true, if_false]
        try simp only [go_sem, Int.reduceTMod, Int.reduceTDiv, Int.reduceDiv, Int.reduceMod, Int.reduceAdd, Int.reduceSub, Int.reduceMul, Int.reduceNeg, Int.reducePow, Int.reduceEq, ↓reduceIte, Nat.reduceEqDiff, Nat.reduceAdd, Nat.reduceMul, Nat.reduceLeDiff, Nat.reduceSub, Nat.reduceLT, Int.reduceToNat, Int.reduceLT, Int.reduceLE, reduceCtorEq]
        repeat' ((first | refine FK_split (fun h_ => ?_) (fun h_ => ?_) | refine GK_split (fun h_ => ?_) (fun h_ => ?_) | refine ite_both (fun h_ => ?_) (fun h_ => ?_)) <;> (try simp only [decide_eq_true_eq, decide_eq_false_iff_not, Bool.not_true, Bool.not_false, Bool.not_eq_true', Bool.not_eq_false', Bool.not_eq_eq_eq_not, Decidable.not_not] at h_) <;> (try simp only [h_, go_sem, Int.reduceTMod, Int.reduceTDiv, Int.reduceDiv, Int.reduceMod, Int.reduceAdd, Int.reduceSub, Int.reduceMul, Int.reduceNeg, Int.reducePow, Int.reduceEq, ↓reduceIte, Nat.reduceEqDiff, Nat.reduceAdd, Nat.reduceMul, Nat.reduceLeDiff, Nat.reduceSub, Nat.reduceLT, Int.reduceToNat, Int.reduceLT, Int.reduceLE, reduceCtorEq]))
        exact ⟨_, _, rfl, rfl, fun h => by cases h⟩
      · simp only [if_true]
        try simp only [go_sem, Int.reduceTMod, Int.reduceTDiv, Int.reduceDiv, Int.reduceMod, Int.reduceAdd, Int.reduceSub, Int.reduceMul, Int.reduceNeg, Int.reducePow, Int.reduceEq, ↓reduceIte, Nat.reduceEqDiff, Nat.reduceAdd, Nat.reduceMul, Nat.reduceLeDiff, Nat.reduceSub, Nat.reduceLT, Int.reduceToNat, Int.reduceLT, Int.reduceLE, reduceCtorEq]
        repeat' ((first | refine FK_split (fun h_ => ?_) (fun h_ => ?_) | refine GK_split (fun h_ => ?_) (fun h_ => ?_) | refine ite_both (fun h_ => ?_) (fun h_ => ?_)) <;> (try simp only [decide_eq_true_eq, decide_eq_false_iff_not, Bool.not_true, Bool.not_false, Bool.not_eq_true', Bool.not_eq_false', Bool.not_eq_eq_eq_not, Decidable.not_not] at h_) <;> (try simp only [h_, go_sem, Int.reduceTMod, Int.reduceTDiv, Int.reduceDiv, Int.reduceMod, Int.reduceAdd, Int.reduceSub, Int.reduceMul, Int.reduceNeg, Int.reducePow, Int.reduceEq, ↓reduceIte, Nat.reduceEqDiff, Nat.reduceAdd, Nat.reduceMul, Nat.reduceLeDiff, Nat.reduceSub, Nat.reduceLT, Int.reduceToNat, Int.reduceLT, Int.reduceLE, reduceCtorEq]))
        refine ⟨_, _, rfl, rfl, fun _ => ⟨Or.inr ⟨n + 4, 0, some 4, rfl, by omega, ?_⟩, fun id hid => ?_⟩⟩
        · show rd _ (n + 4) 0 8 = _
          rw [rd_unfrz (by omega)]
          simp only [barQ, List.flatMap_cons, List.flatMap_nil, go_sem, Int.reduceTMod, Int.reduceTDiv, Int.reduceDiv, Int.reduceMod, Int.reduceAdd, Int.reduceSub, Int.reduceMul, Int.reduceNeg, Int.reducePow, Int.reduceEq, ↓reduceIte, Nat.reduceEqDiff, Nat.reduceAdd, Nat.reduceMul, Nat.reduceLeDiff, Nat.reduceSub, Nat.reduceLT, Int.reduceToNat, Int.reduceLT, Int.reduceLE, reduceCtorEq]
        · simp only [sid, Option.some.injEq] at hid; omega
  · have vs := v_stepsLong h ha' hb' hl
    try simp only [r19_0, r19_1, r19_2, r19_3, r19_4, r19_5, r19_6, c19, F19, v_right, g1, v_PIn, ha', hb', hnb, vs, go_sem, Int.reduceTMod, Int.reduceTDiv, Int.reduceDiv, Int.reduceMod, Int.reduceAdd, Int.reduceSub, Int.reduceMul, Int.reduceNeg, Int.reducePow, Int.reduceEq, ↓reduceIte, Nat.reduceEqDiff, Nat.reduceAdd, Nat.reduceMul, Nat.reduceLeDiff, Nat.reduceSub, Nat.reduceLT, Int.reduceToNat, Int.reduceLT, Int.reduceLE, reduceCtorEq]
    repeat' ((first | refine FK_split (fun h_ => ?_) (fun h_ => ?_) | refine GK_split (fun h_ => ?_) (fun h_ => ?_) | refine ite_both (fun h_ => ?_) (fun h_ => ?_)) <;> (try simp only [decide_eq_true_eq, decide_eq_false_iff_not, Bool.not_true, Bool.not_false, Bool.not_eq_true', Bool.not_eq_false', Bool.not_eq_eq_eq_not, Decidable.not_not] at h_) <;> (try simp only [r19_0, r19_1, r19_2, r19_3, r19_4, r19_5, r19_6, c19, F19, v_right, g1, v_PIn, ha', hb', hnb, vs, h_, go_sem, Int.reduceTMod, Int.reduceTDiv, Int.reduceDiv, Int.reduceMod, Int.reduceAdd, Int.reduceSub, Int.reduceMul, Int.reduceNeg, Int.reducePow, Int.reduceEq, ↓reduceIte, Nat.reduceEqDiff, Nat.reduceAdd, Nat.reduceMul, Nat.reduceLeDiff, Nat.reduceSub, Nat.reduceLT, Int.reduceToNat, Int.reduceLT, Int.reduceLE, reduceCtorEq]))
    exact ⟨_, _, rfl, rfl, fun h => by cases h⟩
theorem w_rBar {a b : Pt} {h : Int} (ha : inP a = true) (hb : inP b = true) (hab : a ≠ b) (h1 : 1 ≤ h) (h2 : h ≤ 32768) (hl : longQ a b = false) (m : Mem) (n : Nat) : Fn TA 43 [a.r, b.r, RI h] m n (RefQ (barQ a b h) n) := by
  refine Fn_ofK (fn := F43) rfl (by simp [F43]) ?_
  have vs := v_rSteps (show inP ⟨a.x, a.y⟩ = true from ha) (show inP ⟨b.x, b.y⟩ = true from hb) hl (pt_sub hab) h1 h2
  obtain ⟨b1, b2⟩ := sdq_bd hab h1 h2 hl
  rw [show sdP (b.x - a.x) (b.y - a.y) h = sdQ a b h from rfl, show ahP (b.x - a.x) (b.y - a.y) h = ahQ a b h from rfl] at vs
  have v0 := v_mix a (sdQ a b h) (ahQ a b h) (-1) (0) ha (by decide) (by decide) b1 b2
  have v1 := v_mix b (sdQ a b h) (ahQ a b h) (-1) (0) hb (by decide) (by decide) b1 b2
  have v2 := v_mix b (sdQ a b h) (ahQ a b h) (1) (0) hb (by decide) (by decide) b1 b2
  have v3 := v_mix a (sdQ a b h) (ahQ a b h) (1) (0) ha (by decide) (by decide) b1 b2
  try simp only [r43_0, r43_1, r43_2, c43, F43, vs, v0, v1, v2, v3, go_sem, Int.reduceTMod, Int.reduceTDiv, Int.reduceDiv, Int.reduceMod, Int.reduceAdd, Int.reduceSub, Int.reduceMul, Int.reduceNeg, Int.reducePow, Int.reduceEq, ↓reduceIte, Nat.reduceEqDiff, Nat.reduceAdd, Nat.reduceMul, Nat.reduceLeDiff, Nat.reduceSub, Nat.reduceLT, Int.reduceToNat, Int.reduceLT, Int.reduceLE, reduceCtorEq]
  repeat' ((first | refine FK_split (fun h_ => ?_) (fun h_ => ?_) | refine GK_split (fun h_ => ?_) (fun h_ => ?_) | refine ite_both (fun h_ => ?_) (fun h_ => ?_)) <;> (try simp only [decide_eq_true_eq, decide_eq_false_iff_not, Bool.not_true, Bool.not_false, Bool.not_eq_true', Bool.not_eq_false', Bool.not_eq_eq_eq_not, Decidable.not_not] at h_) <;> (try simp only [r43_0, r43_1, r43_2, c43, F43, vs, v0, v1, v2, v3, h_, go_sem, Int.reduceTMod, Int.reduceTDiv, Int.reduceDiv, Int.reduceMod, Int.reduceAdd, Int.reduceSub, Int.reduceMul, Int.reduceNeg, Int.reducePow, Int.reduceEq, ↓reduceIte, Nat.reduceEqDiff, Nat.reduceAdd, Nat.reduceMul, Nat.reduceLeDiff, Nat.reduceSub, Nat.reduceLT, Int.reduceToNat, Int.reduceLT, Int.reduceLE, reduceCtorEq]))
  refine ⟨by omega, _, rfl, Or.inr ⟨n + 4, 0, some 4, rfl, by omega, ?_⟩, fun id hid => ?_⟩
  · show rd _ (n + 4) 0 8 = _
    simp only [barQ, lsP, plP, Pt.cs, List.flatMap_cons, List.flatMap_nil, go_sem, Int.reduceTMod, Int.reduceTDiv, Int.reduceDiv, Int.reduceMod, Int.reduceAdd, Int.reduceSub, Int.reduceMul, Int.reduceNeg, Int.reducePow, Int.reduceEq, ↓reduceIte, Nat.reduceEqDiff, Nat.reduceAdd, Nat.reduceMul, Nat.reduceLeDiff, Nat.reduceSub, Nat.reduceLT, Int.reduceToNat, Int.reduceLT, Int.reduceLE, reduceCtorEq]
    simp only [Int.neg_mul, Int.one_mul, Int.zero_mul, Int.add_zero, Int.sub_eq_add_neg]
  · simp only [sid, Option.some.injEq] at hid; omega
theorem w_rFirst {a b : Pt} {h : Int} (ha : inP a = true) (hb : inP b = true) (hab : a ≠ b) (h1 : 1 ≤ h) (h2 : h ≤ 32768) (hl : longQ a b = false) (m : Mem) (n : Nat) : Fn TA 44 [a.r, b.r, RI h] m n (RefQ (firstQ a b h) n) := by
  refine Fn_ofK (fn := F44) rfl (by simp [F44]) ?_
  have vs := v_rSteps (show inP ⟨a.x, a.y⟩ = true from ha) (show inP ⟨b.x, b.y⟩ = true from hb) hl (pt_sub hab) h1 h2
  obtain ⟨b1, b2⟩ := sdq_bd hab h1 h2 hl
  rw [show sdP (b.x - a.x) (b.y - a.y) h = sdQ a b h from rfl, show ahP (b.x - a.x) (b.y - a.y) h = ahQ a b h from rfl] at vs
  have v0 := v_mix a (sdQ a b h) (ahQ a b h) (-1) (-1) ha (by decide) (by decide) b1 b2
  have v1 := v_mix a (sdQ a b h) (ahQ a b h) (-1) (0) ha (by decide) (by decide) b1 b2
  have v2 := v_mix a (sdQ a b h) (ahQ a b h) (1) (0) ha (by decide) (by decide) b1 b2
  have v3 := v_mix a (sdQ a b h) (ahQ a b h) (1) (-1) ha (by decide) (by decide) b1 b2
  try simp only [r44_0, r44_1, r44_2, c44, F44, vs, v0, v1, v2, v3, go_sem, Int.reduceTMod, Int.reduceTDiv, Int.reduceDiv, Int.reduceMod, Int.reduceAdd, Int.reduceSub, Int.reduceMul, Int.reduceNeg, Int.reducePow, Int.reduceEq, ↓reduceIte, Nat.reduceEqDiff, Nat.reduceAdd, Nat.reduceMul, Nat.reduceLeDiff, Nat.reduceSub, Nat.reduceLT, Int.reduceToNat, Int.reduceLT, Int.reduceLE, reduceCtorEq]
  repeat' ((first | refine FK_split (fun h_ => ?_) (fun h_ => ?_) | refine GK_split (fun h_ => ?_) (fun h_ => ?_) | refine ite_both (fun h_ => ?_) (fun h_ => ?_)) <;> (try simp only [decide_eq_true_eq, decide_eq_false_iff_not, Bool.not_true, Bool.not_false, Bool.not_eq_true', Bool.not_eq_false', Bool.not_eq_eq_eq_not, Decidable.not_not] at h_) <;> (try simp only [r44_0, r44_1, r44_2, c44, F44, vs, v0, v1, v2, v3, h_, go_sem, Int.reduceTMod, Int.reduceTDiv, Int.reduceDiv, Int.reduceMod, Int.reduceAdd, Int.reduceSub, Int.reduceMul, Int.reduceNeg, Int.reducePow, Int.reduceEq, ↓reduceIte, Nat.reduceEqDiff, Nat.reduceAdd, Nat.reduceMul, Nat.reduceLeDiff, Nat.reduceSub, Nat.reduceLT, Int.reduceToNat, Int.reduceLT, Int.reduceLE, reduceCtorEq]))
  refine ⟨by omega, _, rfl, Or.inr ⟨n + 4, 0, some 4, rfl, by omega, ?_⟩, fun id hid => ?_⟩
  · show rd _ (n + 4) 0 8 = _
    simp only [firstQ, lsP, plP, Pt.cs, List.flatMap_cons, List.flatMap_nil, go_sem, Int.reduceTMod, Int.reduceTDiv, Int.reduceDiv, Int.reduceMod, Int.reduceAdd, Int.reduceSub, Int.reduceMul, Int.reduceNeg, Int.reducePow, Int.reduceEq, ↓reduceIte, Nat.reduceEqDiff, Nat.reduceAdd, Nat.reduceMul, Nat.reduceLeDiff, Nat.reduceSub, Nat.reduceLT, Int.reduceToNat, Int.reduceLT, Int.reduceLE, reduceCtorEq]
    simp only [Int.neg_mul, Int.one_mul, Int.zero_mul, Int.add_zero, Int.sub_eq_add_neg]
  · simp only [sid, Option.some.injEq] at hid; omega
theorem w_rLast {a b : Pt} {h : Int} (ha : inP a = true) (hb : inP b = true) (hab : a ≠ b) (h1 : 1 ≤ h) (h2 : h ≤ 32768) (hl : longQ a b = false) (m : Mem) (n : Nat) : Fn TA 45 [a.r, b.r, RI h] m n (RefQ (lastQ a b h) n) := by
  refine Fn_ofK (fn := F45) rfl (by simp [F45]) ?_
  have vs := v_rSteps (show inP ⟨a.x, a.y⟩ = true from ha) (show inP ⟨b.x, b.y⟩ = true from hb) hl (pt_sub hab) h1 h2
  obtain ⟨b1, b2⟩ := sdq_bd hab h1 h2 hl
  rw [show sdP (b.x - a.x) (b.y - a.y) h = sdQ a b h from rfl, show ahP (b.x - a.x) (b.y - a.y) h = ahQ a b h from rfl] at vs
  have v0 := v_mix b (sdQ a b h) (ahQ a b h) (-1) (0) hb (by decide) (by decide) b1 b2
  have v1 := v_mix b (sdQ a b h) (ahQ a b h) (-1) (1) hb (by decide) (by decide) b1 b2
  have v2 := v_mix b (sdQ a b h) (ahQ a b h) (1) (1) hb (by decide) (by decide) b1 b2
  have v3 := v_mix b (sdQ a b h) (ahQ a b h) (1) (0) hb (by decide) (by decide) b1 b2
  try simp only [r45_0, r45_1, r45_2, c45, F45, vs, v0, v1, v2, v3, go_sem, Int.reduceTMod, Int.reduceTDiv, Int.reduceDiv, Int.reduceMod, Int.reduceAdd, Int.reduceSub, Int.reduceMul, Int.reduceNeg, Int.reducePow, Int.reduceEq, ↓reduceIte, Nat.reduceEqDiff, Nat.reduceAdd, Nat.reduceMul, Nat.reduceLeDiff, Nat.reduceSub, Nat.reduceLT, Int.reduceToNat, Int.reduceLT, Int.reduceLE, reduceCtorEq]
  repeat' ((first | refine FK_split (fun h_ => ?_) (fun h_ => ?_) | refine GK_split (fun h_ => ?_) (fun h_ => ?_) | refine ite_both (fun h_ => ?_) (fun h_ => ?_)) <;> (try simp only [decide_eq_true_eq, decide_eq_false_iff_not, Bool.not_true, Bool.not_false, Bool.not_eq_true', Bool.not_eq_false', Bool.not_eq_eq_eq_not, Decidable.not_not] at h_) <;> (try simp only [r45_0, r45_1, r45_2, c45, F45, vs, v0, v1, v2, v3, h_, go_sem, Int.reduceTMod, Int.reduceTDiv, Int.reduceDiv, Int.reduceMod, Int.reduceAdd, Int.reduceSub, Int.reduceMul, Int.reduceNeg, Int.reducePow, Int.reduceEq, ↓reduceIte, Nat.reduceEqDiff, Nat.reduceAdd, Nat.reduceMul, Nat.reduceLeDiff, Nat.reduceSub, Nat.reduceLT, Int.reduceToNat, Int.reduceLT, Int.reduceLE, reduceCtorEq]))
  refine ⟨by omega, _, rfl, Or.inr ⟨n + 4, 0, some 4, rfl, by omega, ?_⟩, fun id hid => ?_⟩
  · show rd _ (n + 4) 0 8 = _
    simp only [lastQ, lsP, plP, Pt.cs, List.flatMap_cons, List.flatMap_nil, go_sem, Int.reduceTMod, Int.reduceTDiv, Int.reduceDiv, Int.reduceMod, Int.reduceAdd, Int.reduceSub, Int.reduceMul, Int.reduceNeg, Int.reducePow, Int.reduceEq, ↓reduceIte, Nat.reduceEqDiff, Nat.reduceAdd, Nat.reduceMul, Nat.reduceLeDiff, Nat.reduceSub, Nat.reduceLT, Int.reduceToNat, Int.reduceLT, Int.reduceLE, reduceCtorEq]
    simp only [Int.neg_mul, Int.one_mul, Int.zero_mul, Int.add_zero, Int.sub_eq_add_neg]
  · simp only [sid, Option.some.injEq] at hid; omega
theorem w_DiscP {c : Pt} {h : Int} (hc : inP c = true) (h1 : 1 ≤ h) (h2 : h ≤ 32768) (m : Mem) (n : Nat) (h0n : 0 < n) (o : Bool) (hm0 : m 0 = some ⟨cosT, o⟩) : Fn TA 8 [c.r, RI h] m n (PolyQ ((disc c.x c.y h).all inP) (disc c.x c.y h) n) := by
  refine (w_Disc c.x c.y h m n h0n o hm0).mono ?_
  intro r' m' n' hq
  cases ha : (disc c.x c.y h).all inP
  · exact ⟨_, _, hq.out ⟨⟨h1, h2⟩, hc⟩ ha, rfl, fun h => by cases h⟩
  · obtain ⟨id, e1, e2, e3, e4⟩ := hq.ok ⟨⟨h1, h2⟩, hc⟩ ha
    refine ⟨_, _, e1, rfl, fun _ => ⟨disc_at e4 e3, fun i hi => ?_⟩⟩
    simp only [sid, Option.some.injEq] at hi; omega
theorem w_rDiscP {c : Pt} {h : Int} (hc : inP c = true) (h1 : 1 ≤ h) (h2 : h ≤ 32768) (m : Mem) (n : Nat) : Fn TA 11 [c.r, RI h] m n (RefQ (disc c.x c.y h) n) := by
  refine (w_rDisc c.x c.y h h1 h2 hc m n).mono ?_
  rintro r' m' n' ⟨id, rfl, e2, e3, e4⟩
  refine ⟨by omega, _, rfl, disc_at e4 e3, fun i hi => ?_⟩
  simp only [sid, Option.some.injEq] at hi; omega

/- Rows of polygons; what a pen leaves. Conditions: those that each theorem names. -/
open Go Go.Proofs
set_option linter.unusedSimpArgs false
set_option linter.unusedVariables false

def encC (c : Cell) : List Cell := [c]
theorem cc1 (c : Cell) : (encC c).length = 1 := rfl
theorem encC_all (l : List Cell) : l.flatMap encC = l := by
  induction l with
  | nil => rfl
  | cons x l ih => rw [List.flatMap_cons, ih]; rfl
/-- One record more, in a block of its own. -/
theorem K_push2 {T : Nat → Option SFun} {α : Type} {enc : α → List Cell} {sz : Nat} (hsz : ∀ x, (enc x).length = sz) (hpos : 0 < sz) {base n0 n : Nat} {m0 m : Mem} {r0 : Reg} {l : List α} {p : α} {j by' : Nat} {o : Bool} {d : Option Nat} {os : List SOper} {e : Nat → Reg} {k : Kt}
    (ho : OL enc sz base m0 n0 r0 l) (hn : n0 ≤ n) (hm : ∀ id, base ≤ id → id < n0 → m id = m0 id) (hj : m j = some ⟨enc p, o⟩) (hsm : l.length + 1 ≤ 4294967296) (hbase : base ≤ n)
    (next : ∀ c m', OL enc sz base m' (n + 1) (.one c) (l ++ [p]) → (∀ id, id < n → sid r0 ≠ some id → m' id = m id) → (∀ id, sid (.one c) = some id → id = n) → RK T os (putE e d (.one c)) m' (n + 1) k) :
    ThenK T d os e k (evApp m n sz by' r0 (.one (.sl j 0 1 (some 1) sz))) := by
  have hx : newsOf m sz (.one (.sl j 0 1 (some 1) sz)) = some (1, enc p) := by
    simp only [newsOf, if_true]
    rw [rd_of hj]
    simp [rdB, hsz]
    exact List.take_of_length_le (by rw [hsz]; exact Nat.le_refl _)
  rcases ho with ⟨rfl, rfl⟩ | ⟨id, rfl, h2, h3, h4⟩
  · simp only [evApp, hx]
    rw [if_neg (by omega), if_pos (by omega)]
    refine next _ _ (Or.inr ⟨n, rfl, hbase, by omega, ?_⟩) (fun id hid _ => upd_ne _ _ (by omega)) (fun id h => ?_)
    · rw [upd_same]
      simp
    · simp only [sid, Option.some.injEq] at h; exact h.symm
  · have h5 : m id = some ⟨l.flatMap enc, true⟩ := by rw [hm id h2 h3]; exact h4
    have hl := flatMap_len enc sz hsz l
    have h6 : rd m id 0 (l.length * sz) = some (l.flatMap enc) := by
      rw [rd_of h5]
      unfold rdB
      rw [if_pos (by rw [hl]; omega), List.drop_zero, ← hl, List.take_length]
    simp only [evApp, hx, if_true, h5, h6, Option.map_some, true_and, if_pos hsm]
    refine next _ _ (Or.inr ⟨n, by simp, hbase, by omega, ?_⟩) (fun i hi hs => ?_) (fun id h => ?_)
    · rw [upd_same]; simp
    · rw [upd_ne _ _ (by omega), upd_ne _ _ (fun e => hs (by rw [e]; rfl))]
    · simp only [sid, Option.some.injEq] at h; exact h.symm
/-- A slice of the call's own, of polygons of its own. -/
def OPs (pid u v : Nat) (m : Mem) (n : Nat) (r : Reg) (ls : List (List Pt)) : Prop :=
  ∃ cs : List Cell, OL encC 1 (pid + 1) m n r cs ∧ (∀ j, sid r = some j → j ≠ u ∧ j ≠ v) ∧ cs.length = ls.length ∧ ∀ (i : Nat) (l : List Pt), ls[i]? = some l → ∃ c, cs[i]? = some c ∧ RPt m n (.one c) l ∧ ∀ j, sid (.one c) = some j → (pid + 1 ≤ j ∧ j ≠ u ∧ j ≠ v) ∧ sid r ≠ some j
theorem OL.sidlt {α : Type} {enc : α → List Cell} {sz base : Nat} {m : Mem} {n : Nat} {r : Reg} {l : List α} (h : OL enc sz base m n r l) {id : Nat} (hi : sid r = some id) : base ≤ id ∧ id < n := by
  rcases h with ⟨rfl, _⟩ | ⟨id', rfl, h2, h3, _⟩
  · cases hi
  · simp only [sid, Option.some.injEq] at hi; omega
/-- One polygon more in the row. -/
theorem OPs.snoc {pid u v : Nat} {m m' : Mem} {n n' : Nat} {r r' : Reg} {ls : List (List Pt)} {cs : List Cell} {x : Cell} {l : List Pt}
    (hlen : cs.length = ls.length) (hel : ∀ (i : Nat) (l : List Pt), ls[i]? = some l → ∃ c, cs[i]? = some c ∧ RPt m n (.one c) l ∧ ∀ j, sid (.one c) = some j → (pid + 1 ≤ j ∧ j ≠ u ∧ j ≠ v) ∧ sid r ≠ some j)
    (hx : RPt m n (.one x) l) (hxs : ∀ j, sid (.one x) = some j → (pid + 1 ≤ j ∧ j ≠ u ∧ j ≠ v) ∧ sid r ≠ some j) (ho : OL encC 1 (pid + 1) m' n' r' (cs ++ [x])) (hu : u < n) (hv : v < n) (hn : n ≤ n') (hs : ∀ id, sid r' = some id → n ≤ id)
    (hf : ∀ id, pid + 1 ≤ id → id < n → sid r ≠ some id → m' id = m id) : OPs pid u v m' n' r' (ls ++ [l]) := by
  refine ⟨cs ++ [x], ho, fun j hj => by have := hs j hj; omega, by simp [hlen], fun i k hi => ?_⟩
  have keep : ∀ (c : Cell) (l : List Pt), RPt m n (.one c) l → (∀ j, sid (.one c) = some j → (pid + 1 ≤ j ∧ j ≠ u ∧ j ≠ v) ∧ sid r ≠ some j) → RPt m' n' (.one c) l ∧ ∀ j, sid (.one c) = some j → (pid + 1 ≤ j ∧ j ≠ u ∧ j ≠ v) ∧ sid r' ≠ some j := fun c l h1 h2 => by
    refine ⟨h1.keep' hn (fun id hid => hf id (h2 id hid).1.1 (h1.lt hid) (h2 id hid).2), fun j hj => ⟨(h2 j hj).1, fun h => ?_⟩⟩
    have := hs j h
    have := h1.lt hj
    omega
  rcases Nat.lt_or_ge i ls.length with h | h
  · rw [List.getElem?_append_left h] at hi
    obtain ⟨c, h1, h2, h3⟩ := hel i k hi
    obtain ⟨h4, h5⟩ := keep c k h2 h3
    exact ⟨c, by rw [List.getElem?_append_left (by omega)]; exact h1, h4, h5⟩
  · rw [List.getElem?_append_right h] at hi
    obtain ⟨h4, h5⟩ := keep x l hx hxs
    have hi0 : i - ls.length = 0 := by
      rcases Nat.eq_zero_or_pos (i - ls.length) with e | e
      · exact e
      · rw [List.getElem?_eq_none (by simp; omega)] at hi; cases hi
    rw [hi0] at hi
    simp only [List.getElem?_cons_zero, Option.some.injEq] at hi
    subst hi
    exact ⟨x, by rw [List.getElem?_append_right (by omega), hlen, hi0]; rfl, h4, h5⟩
theorem OPs.keep {pid u v : Nat} {m m' : Mem} {n n' : Nat} {r : Reg} {ls : List (List Pt)} (h : OPs pid u v m n r ls) (hn : n ≤ n') (hf : ∀ id, pid + 1 ≤ id → id < n → id ≠ u → id ≠ v → m' id = m id) : OPs pid u v m' n' r ls := by
  obtain ⟨cs, h1, h0, h2, h3⟩ := h
  refine ⟨cs, ?_, h0, h2, fun i l hi => ?_⟩
  · rcases h1 with h1 | ⟨id, k1, k2, k3, k4⟩
    · exact Or.inl h1
    · have := h0 id (by rw [k1]; rfl)
      exact Or.inr ⟨id, k1, k2, by omega, by rw [hf id k2 k3 this.1 this.2]; exact k4⟩
  · obtain ⟨c, k1, k2, k3⟩ := h3 i l hi
    exact ⟨c, k1, k2.keep' hn (fun id hid => hf id (k3 id hid).1.1 (k2.lt hid) (k3 id hid).1.2.1 (k3 id hid).1.2.2), k3⟩
theorem OPs.avoid {pid u v u' v' : Nat} {m : Mem} {n : Nat} {r : Reg} {ls : List (List Pt)} (h : OPs pid u v m n r ls) (hu : n ≤ u' ∨ u' ≤ pid) (hv : n ≤ v' ∨ v' ≤ pid) : OPs pid u' v' m n r ls := by
  obtain ⟨cs, h1, h0, h2, h3⟩ := h
  refine ⟨cs, h1, fun j hj => by have := h1.sidlt hj; omega, h2, fun i l hi => ?_⟩
  obtain ⟨c, k1, k2, k3⟩ := h3 i l hi
  exact ⟨c, k1, k2, fun j hj => ⟨by have := (k3 j hj).1; have := k2.lt hj; omega, (k3 j hj).2⟩⟩
/-- A pen, and what it has left: polygons, right or not. -/
structure Pen (pid u v : Nat) (h : Int) (its : List (Bool × List Pt)) (co : Cell) (m : Mem) (n : Nat) : Prop where
  hp : m pid = some ⟨[I h, co, I (if its.all (·.1) = true then 0 else 10)], true⟩
  hl : pid < n
  hu : u < n
  hv : v < n
  ho : its.all (·.1) = true → OPs pid u v m n (.one co) (its.map (·.2))
/-- What stays as_ it was. -/
def PenF (pid : Nat) (its : List (Bool × List Pt)) (co : Cell) (m m' : Mem) (n : Nat) : Prop := ∀ id, id < n → id ≠ pid → (its.all (·.1) = true → sid (.one co) ≠ some id) → m' id = m id
theorem w_leave {pid u v : Nat} {h : Int} {its : List (Bool × List Pt)} {co x : Cell} {m : Mem} {n : Nat} {ok : Bool} {l : List Pt} {kk : Int} (hk : kk = if ok = true then 0 else 10) (hP : Pen pid u v h its co m n) (hlen : its.length < 4294967295)
    (hx : its.all (·.1) = true → ok = true → RPt m n (.one x) l ∧ ∀ id, sid (.one x) = some id → (pid + 1 ≤ id ∧ id ≠ u ∧ id ≠ v) ∧ sid (.one co) ≠ some id) :
    Fn TA 37 [.one (.ptr pid 0), .one x, RI kk] m n (fun _ m' n' => n ≤ n' ∧ PenF pid its co m m' n ∧ ∃ co', Pen pid u v h (its ++ [(ok, l)]) co' m' n' ∧ (its.all (·.1) = true → ∀ id, sid (.one co') = some id → n ≤ id) ∧ (its.all (·.1) = false → co' = co)) := by
  refine Fn_ofK (fn := F37) rfl (by simp [F37]) ?_
  subst hk
  obtain ⟨hp, hl, hu, hv, ho⟩ := hP
  cases hall : its.all (·.1)
  · rw [hall] at hp
    simp only [Bool.false_eq_true, if_false] at hp
    try simp only [r37_0, r37_1, r37_2, c37, F37, hp, rd_of hp, go_sem, Int.reduceTMod, Int.reduceTDiv, Int.reduceDiv, Int.reduceMod, Int.reduceAdd, Int.reduceSub, Int.reduceMul, Int.reduceNeg, Int.reducePow, Int.reduceEq, ↓reduceIte, Nat.reduceEqDiff, Nat.reduceAdd, Nat.reduceMul, Nat.reduceLeDiff, Nat.reduceSub, Nat.reduceLT, Int.reduceToNat, Int.reduceLT, Int.reduceLE, reduceCtorEq]
    repeat' ((first | refine FK_split (fun h_ => ?_) (fun h_ => ?_) | refine GK_split (fun h_ => ?_) (fun h_ => ?_) | refine ite_both (fun h_ => ?_) (fun h_ => ?_)) <;> (try simp only [decide_eq_true_eq, decide_eq_false_iff_not, Bool.not_true, Bool.not_false, Bool.not_eq_true', Bool.not_eq_false', Bool.not_eq_eq_eq_not, Decidable.not_not] at h_) <;> (try simp only [r37_0, r37_1, r37_2, c37, F37, hp, rd_of hp, h_, go_sem, Int.reduceTMod, Int.reduceTDiv, Int.reduceDiv, Int.reduceMod, Int.reduceAdd, Int.reduceSub, Int.reduceMul, Int.reduceNeg, Int.reducePow, Int.reduceEq, ↓reduceIte, Nat.reduceEqDiff, Nat.reduceAdd, Nat.reduceMul, Nat.reduceLeDiff, Nat.reduceSub, Nat.reduceLT, Int.reduceToNat, Int.reduceLT, Int.reduceLE, reduceCtorEq]))
    refine ⟨by omega, fun _ _ _ _ => rfl, co, ⟨?_, hl, hu, hv, fun h => ?_⟩, fun h => h.elim, fun _ => rfl⟩
    · rw [List.all_append, hall]
      simpa using hp
    · rw [List.all_append, hall] at h
      cases h
  · rw [hall] at hp
    simp only [if_true] at hp
    obtain ⟨cs, ho1, ho0, ho2, ho3⟩ := ho hall
    have hn1 := na_0 hl
    try simp only [r37_0, r37_1, r37_2, c37, F37, hp, rd_of hp, hn1, go_sem, Int.reduceTMod, Int.reduceTDiv, Int.reduceDiv, Int.reduceMod, Int.reduceAdd, Int.reduceSub, Int.reduceMul, Int.reduceNeg, Int.reducePow, Int.reduceEq, ↓reduceIte, Nat.reduceEqDiff, Nat.reduceAdd, Nat.reduceMul, Nat.reduceLeDiff, Nat.reduceSub, Nat.reduceLT, Int.reduceToNat, Int.reduceLT, Int.reduceLE, reduceCtorEq]
    repeat' ((first | refine FK_split (fun h_ => ?_) (fun h_ => ?_) | refine GK_split (fun h_ => ?_) (fun h_ => ?_) | refine ite_both (fun h_ => ?_) (fun h_ => ?_)) <;> (try simp only [decide_eq_true_eq, decide_eq_false_iff_not, Bool.not_true, Bool.not_false, Bool.not_eq_true', Bool.not_eq_false', Bool.not_eq_eq_eq_not, Decidable.not_not] at h_) <;> (try simp only [r37_0, r37_1, r37_2, c37, F37, hp, rd_of hp, hn1, h_, go_sem, Int.reduceTMod, Int.reduceTDiv, Int.reduceDiv, Int.reduceMod, Int.reduceAdd, Int.reduceSub, Int.reduceMul, Int.reduceNeg, Int.reducePow, Int.reduceEq, ↓reduceIte, Nat.reduceEqDiff, Nat.reduceAdd, Nat.reduceMul, Nat.reduceLeDiff, Nat.reduceSub, Nat.reduceLT, Int.reduceToNat, Int.reduceLT, Int.reduceLE, reduceCtorEq]))
    have hal : (its ++ [(ok, l)]).all (·.1) = ok := by rw [List.all_append, hall]; simp
    refine K_push2 cc1 (by decide) (p := x) (o := true) ho1 (by omega) (fun id h1 h2 => by rw [upd_ne _ _ (by omega), upd_ne _ _ (by omega)]) (by rw [upd_same]; rfl) (by rw [ho2, List.length_map]; omega) (by omega) ?_
    intro c m' ho' h1 h2
    have hco : sid (.one co) ≠ some pid := fun e => by have := ho1.sidlt e; omega
    have hpid : m' pid = some ⟨[I h, co, Cell.sc (Value.int .i64 (if ok = true then 0 else 10))], true⟩ := by
      rw [h1 pid (by omega) hco, upd_ne _ _ (by omega), upd_same]
    try simp only [hpid, rd_of hpid, go_sem, Int.reduceTMod, Int.reduceTDiv, Int.reduceDiv, Int.reduceMod, Int.reduceAdd, Int.reduceSub, Int.reduceMul, Int.reduceNeg, Int.reducePow, Int.reduceEq, ↓reduceIte, Nat.reduceEqDiff, Nat.reduceAdd, Nat.reduceMul, Nat.reduceLeDiff, Nat.reduceSub, Nat.reduceLT, Int.reduceToNat, Int.reduceLT, Int.reduceLE, reduceCtorEq]
    repeat' ((first | refine FK_split (fun h_ => ?_) (fun h_ => ?_) | refine GK_split (fun h_ => ?_) (fun h_ => ?_) | refine ite_both (fun h_ => ?_) (fun h_ => ?_)) <;> (try simp only [decide_eq_true_eq, decide_eq_false_iff_not, Bool.not_true, Bool.not_false, Bool.not_eq_true', Bool.not_eq_false', Bool.not_eq_eq_eq_not, Decidable.not_not] at h_) <;> (try simp only [hpid, rd_of hpid, h_, go_sem, Int.reduceTMod, Int.reduceTDiv, Int.reduceDiv, Int.reduceMod, Int.reduceAdd, Int.reduceSub, Int.reduceMul, Int.reduceNeg, Int.reducePow, Int.reduceEq, ↓reduceIte, Nat.reduceEqDiff, Nat.reduceAdd, Nat.reduceMul, Nat.reduceLeDiff, Nat.reduceSub, Nat.reduceLT, Int.reduceToNat, Int.reduceLT, Int.reduceLE, reduceCtorEq]))
    have hfr : ∀ id, id < n → id ≠ pid → sid (.one co) ≠ some id → upd m' pid (some ⟨[I h, c, Cell.sc (Value.int .i64 (if ok = true then 0 else 10))], true⟩) id = m id := fun id k1 k2 k3 => by
      rw [upd_ne _ _ k2, h1 id (by omega) k3, upd_ne _ _ (by omega), upd_ne _ _ k2]
    have hsc : ∀ id, sid (.one c) = some id → n ≤ id := fun id k => by have := h2 id k; omega
    refine ⟨by omega, fun id k1 k2 k3 => hfr id k1 k2 (k3 hall), c, ⟨?_, by omega, by omega, by omega, fun hk => ?_⟩, fun _ => hsc, fun h => h.elim⟩
    · rw [hal]; exact upd_same _ _ _
    · rw [hal] at hk
      obtain ⟨hx1, hx2⟩ := hx hall hk
      rw [List.map_append]
      refine OPs.snoc (by rw [ho2]) ho3 hx1 hx2 (ho'.keep (Nat.le_refl _) (fun id k1 k2 => upd_ne _ _ (by omega))) hu hv (by omega) hsc (fun id k1 k2 k3 => hfr id k2 (by omega) k3)

end Go.Proofs.YtidpeongblkcbaaDoor.Sy
