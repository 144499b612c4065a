/- Roots walked: package wide's. Conditions: those that each theorem names. -/
import Derived.Test.YtffhhgcgnillaaaWdA
import Derived.Test.YtffhhgcgnillaaaWdS
namespace Go.Proofs.Ytffhhgcgnillaaa.Sy
open Go Go.Proofs Go.RowKit
set_option linter.unusedSimpArgs false
set_option linter.unusedVariables false
set_option maxRecDepth 20000
attribute [local go_sem] XK_seq XK_block XK_skip XK_exit XK_ret XK_cond XK_reg XK_dreg XK_ureg KN_seq KN_blk KN_lp KN_chk KN_chku KN_top KN_fin KX_seq KX_lp KX_blk KX_chk KX_top KR_seq KR_blk KR_lp KR_chk KR_top KR_fin FK_true FK_false RK_nil RK_mv RK_pick RK_alloc RK_box RK_build RK_bslice RK_load1 RK_loadA RK_store RK_nilchk RK_bin RK_beq RK_eqv RK_eqnil RK_un RK_conv RK_mkfn RK_mkslice RK_slS RK_slA RK_fadr RK_fld RK_iadrA RK_iadrS RK_idxA RK_istr RK_ext RK_lenC RK_cap RK_app RK_appz RK_pre RK_cpy RK_mn RK_mx RK_len RK_carry RK_clr carryR um0 um1 ThenK_some RK_guard GK_tt GK_ff GK_tf GK_ft GK_none QK_some RK_callQ RK_callZ RK_callT TK_some VK_clo RK_callV
  evalOp evO evOs upd_at unfrz_at putE_some putE_none boolOf_b boolOf_tup Option.map_some evRes pack_one pack_two pack_three pack_none List.getD_cons_zero List.getD_cons_succ getD_nil
  Option.some.injEq exists_eq_left' Reg.cs? fillC setL List.set_cons_zero List.set_cons_succ List.length_cons List.length_nil rd_upd rd_updn rdB wr List.drop_zero List.drop_succ_cons List.take_succ_cons List.take_zero List.getElem?_cons_zero List.getElem?_cons_succ
  ix Int.toNat_zero lenO_sl lenO_nil nadd na_eq na_eq' na_lt na_ee na_ll na_ne na_ne' na_tt
attribute [local go_sem] Reg.flat_one Reg.flat_agg Reg.flat_tup flats_nil flats_cons Cell.flat_sc Cell.flat_ptr List.all_cons List.all_nil disOk safeOk safeR decide_eq_true_eq decide_eq_false_iff_not
  List.map_cons List.map_nil List.cons_append List.nil_append List.append_nil evalOp.capsOf Bool.false_bne Bool.bne_false Bool.true_bne Bool.bne_true bne_self_eq_false beq_self_eq_true Bool.not_not Bool.false_and Bool.and_false Bool.true_or Bool.or_true beq_iff_eq eqCells
  Bool.true_beq Bool.false_beq Bool.not_eq_true' Bool.not_eq_eq_eq_not Bool.not_eq_false' and_false false_and frz_at idOf noId Option.isSome_some Bool.and_eq_true
attribute [local go_sem] wr_eq bV_add bV_sub bV_mul bV_eql bV_neq bV_lss bV_leq bV_gtr bV_geq bV_quo bV_rem bV_shr bV_shl uV_not uV_neg wrapU bits_and bits_or bits_xor IntKind.bits Nat.min_eq_left Nat.min_eq_right Nat.min_self
attribute [local go_sem] bne_iff_ne Int.cast_ofNat_Int Nat.zero_add Nat.add_zero and_self and_true true_and ne_eq not_false_eq_true not_true_eq_false decide_true decide_false Bool.false_eq_true Bool.not_true Bool.not_false Bool.true_and Bool.and_true Bool.or_false Bool.false_or Bool.and_self

open Classical in
/-- The root: the greatest number from 0 on whose square is not above. -/
noncomputable def isq (n : Int) : Int := if h : ∃ q : Int, 0 ≤ q ∧ q * q ≤ n ∧ n < (q + 1) * (q + 1) then Classical.choose h else 0
theorem root_unique {n p q : Int} (hp : 0 ≤ p) (h1 : p * p ≤ n) (h2 : n < (p + 1) * (p + 1)) (hq : 0 ≤ q) (k1 : q * q ≤ n) (k2 : n < (q + 1) * (q + 1)) : p = q := by
  rcases Int.lt_trichotomy p q with h | h | h
  · have := Int.mul_le_mul (show p + 1 ≤ q by omega) (show p + 1 ≤ q by omega) (by omega) (by omega)
    omega
  · exact h
  · have := Int.mul_le_mul (show q + 1 ≤ p by omega) (show q + 1 ≤ p by omega) (by omega) (by omega)
    omega
theorem isq_eq {n q : Int} (hq : 0 ≤ q) (k1 : q * q ≤ n) (k2 : n < (q + 1) * (q + 1)) : isq n = q := by
  have hx : ∃ q : Int, 0 ≤ q ∧ q * q ≤ n ∧ n < (q + 1) * (q + 1) := ⟨q, hq, k1, k2⟩
  unfold isq
  rw [dif_pos hx]
  obtain ⟨a1, a2, a3⟩ := Classical.choose_spec hx
  exact root_unique a1 a2 a3 hq k1 k2
theorem pow32 {i : Nat} (h : i ≤ 32) : (0 : Int) < 2 ^ i ∧ (2 : Int) ^ i ≤ 4294967296 := by
  have h1 : (0 : Int) < 2 ^ i := Int.pow_pos (by decide)
  have h2 : (2 : Int) ^ i * 2 ^ (32 - i) = 4294967296 := by rw [← Int.pow_add, show i + (32 - i) = 32 by omega]; decide
  have h3 : (0 : Int) < 2 ^ (32 - i) := Int.pow_pos (by decide)
  have h4 := Int.mul_le_mul_of_nonneg_left (show (1 : Int) ≤ 2 ^ (32 - i) by omega) (Int.le_of_lt h1)
  exact ⟨h1, by omega⟩
theorem wraps_i64 (n : Int) (h₀ : 0 ≤ n) (h₁ : n < 2 ^ 63) : IntKind.i64.wrap n = n := by
  have : (2 : Int) ^ 63 = 9223372036854775808 := by decide
  exact wr_eq (by omega) (by omega)
/-- One digit more: r has zeros there. -/
theorem orBit {r : Int} {i : Nat} (hi : i ≤ 31) (h0 : 0 ≤ r) (h1 : r < 4294967296) (h2 : r % 2 ^ (i + 1) = 0) : Go.bits .or .i64 r (IntKind.i64.wrap (1 * 2 ^ i)) = r + 2 ^ i := by
  have p := pow32 (i := i) (by omega)
  have pw : (2 : Int) ^ 63 = 9223372036854775808 := by decide
  rw [Int.one_mul, wraps_i64 _ (by omega) (by omega)]
  exact bits_join .i64 63 (by decide) wraps_i64 (i + 1) _ _ h0 h2 (by omega) (by omega) (by rw [Int.pow_succ]; omega) (by omega)
theorem sgn_le {x : Int} : (sgn x ≤ 0) = (x ≤ 0) := by
  apply propext
  unfold sgn
  split
  · omega
  · split <;> omega
theorem v_Of' (a : Int) (h0 : -9223372036854775808 ≤ a) (h1 : a ≤ 9223372036854775807) (m : Mem) (n : Nat) : callF TA 52 [RI a] m n = some (wN a) := by
  refine callF_of (Fn_ofK (fn := F52) rfl (by simp [F52]) ?_)
  have e : a / 9223372036854775808 = a / 18446744073709551616 := by omega
  try simp only [r52_0, r52_1, c52, F52, e, go_sem, Int.reduceTMod, Int.reduceTDiv, Int.reduceDiv, Int.reduceMod, Int.reduceAdd, Int.reduceSub, Int.reduceMul, Int.reduceNeg, Int.reducePow, Int.reduceEq, ↓reduceIte, Nat.reduceEqDiff, Nat.reduceAdd, Nat.reduceMul, Nat.reduceLeDiff, Nat.reduceSub, Nat.reduceLT, Int.reduceToNat, Int.reduceLT, Int.reduceLE, reduceCtorEq]
  repeat' ((first | refine FK_split (fun h_ => ?_) (fun h_ => ?_) | refine GK_split (fun h_ => ?_) (fun h_ => ?_) | refine ite_both (fun h_ => ?_) (fun h_ => ?_)) <;> (try simp only [decide_eq_true_eq, decide_eq_false_iff_not, Bool.not_true, Bool.not_false, Bool.not_eq_true', Bool.not_eq_false', Bool.not_eq_eq_eq_not, Decidable.not_not] at h_) <;> (try simp only [r52_0, r52_1, c52, F52, e, h_, go_sem, Int.reduceTMod, Int.reduceTDiv, Int.reduceDiv, Int.reduceMod, Int.reduceAdd, Int.reduceSub, Int.reduceMul, Int.reduceNeg, Int.reducePow, Int.reduceEq, ↓reduceIte, Nat.reduceEqDiff, Nat.reduceAdd, Nat.reduceMul, Nat.reduceLeDiff, Nat.reduceSub, Nat.reduceLT, Int.reduceToNat, Int.reduceLT, Int.reduceLE, reduceCtorEq]))
theorem cmpW (x y : Int) : cmpN (x / 18446744073709551616) (x % 18446744073709551616) (y / 18446744073709551616) (y % 18446744073709551616) = sgn (x - y) := by
  unfold cmpN
  simp only [sgn_sub]
  repeat' split
  all_goals omega
theorem v_Sqrt (n : Int) (hn0 : 0 ≤ n) (hn1 : n ≤ 9223372036854775807) (m : Mem) (k : Nat) : callF TA 56 [RI n] m k = some (RI (isq n)) := by
  refine callF_of (Fn_ofK (fn := F56) rfl (by simp [F56]) ?_)
  have vo := v_Of' n (by omega) hn1
  try simp only [r56_0, r56_1, r56_2, r56_3, r56_5, r56_6, r56_7, r56_4, r56_8, c56, F56, go_sem, Int.reduceTMod, Int.reduceTDiv, Int.reduceDiv, Int.reduceMod, Int.reduceAdd, Int.reduceSub, Int.reduceMul, Int.reduceNeg, Int.reducePow, Int.reduceEq, ↓reduceIte, Nat.reduceEqDiff, Nat.reduceAdd, Nat.reduceMul, Nat.reduceLeDiff, Nat.reduceSub, Nat.reduceLT, Int.reduceToNat, Int.reduceLT, Int.reduceLE, reduceCtorEq]
  repeat' ((first | refine FK_split (fun h_ => ?_) (fun h_ => ?_) | refine GK_split (fun h_ => ?_) (fun h_ => ?_) | refine ite_both (fun h_ => ?_) (fun h_ => ?_)) <;> (try simp only [decide_eq_true_eq, decide_eq_false_iff_not, Bool.not_true, Bool.not_false, Bool.not_eq_true', Bool.not_eq_false', Bool.not_eq_eq_eq_not, Decidable.not_not] at h_) <;> (try simp only [r56_0, r56_1, r56_2, r56_3, r56_5, r56_6, r56_7, r56_4, r56_8, c56, F56, h_, go_sem, Int.reduceTMod, Int.reduceTDiv, Int.reduceDiv, Int.reduceMod, Int.reduceAdd, Int.reduceSub, Int.reduceMul, Int.reduceNeg, Int.reducePow, Int.reduceEq, ↓reduceIte, Nat.reduceEqDiff, Nat.reduceAdd, Nat.reduceMul, Nat.reduceLeDiff, Nat.reduceSub, Nat.reduceLT, Int.reduceToNat, Int.reduceLT, Int.reduceLE, reduceCtorEq]))
  refine XK_iter (inv := fun c s => s.e 4 = RI (31 - (c : Int)) ∧ s.e 0 = RI n ∧ ∃ r : Int, s.e 3 = RI r ∧ 0 ≤ r ∧ r % 2 ^ (32 - c) = 0 ∧ r + 2 ^ (32 - c) ≤ 4294967296 ∧ r * r ≤ n ∧ n < (r + 2 ^ (32 - c)) * (r + 2 ^ (32 - c))) 32
    (fun L _ => ⟨fun c hc s hs next => ?_, fun s hs => ?_⟩) 0 (by omega) _ ?_
  · obtain ⟨q4, q0, r, q3, h0, h1, h2, h3, h4⟩ := hs
    obtain ⟨i, hi⟩ : ∃ i, i = 31 - c := ⟨_, rfl⟩
    have ei : (31 : Int) - (c : Int) = ((i : Nat) : Int) := by omega
    have e32 : 32 - c = i + 1 := by omega
    have e31 : 32 - (c + 1) = i := by omega
    rw [ei] at q4
    rw [e32] at h1 h2 h4
    have p := pow32 (i := i) (by omega)
    have eo := orBit (r := r) (i := i) (by omega) h0 (by rw [Int.pow_succ] at h2; omega) h1
    rw [Int.pow_succ] at h2 h4
    have mod0 : r % 2 ^ i = 0 := by
      have : (2 : Int) ^ i ∣ 2 ^ (i + 1) := ⟨2, by rw [Int.pow_succ]⟩
      exact Int.emod_eq_zero_of_dvd (Int.dvd_trans this (Int.dvd_of_emod_eq_zero h1))
    have mod1 : (r + 2 ^ i) % 2 ^ i = 0 := by rw [Int.add_emod_right]; exact mod0
    have c3 : (0 ≤ (i : Int)) = True := eq_true (by omega)
    have c4 : min i 64 = i := by omega
    have c5 : IntKind.i64.wrap ((i : Int) - 1) = 31 - ((c + 1 : Nat) : Int) := (wr_eq (by omega) (by omega)).trans (by omega)
    generalize hB : (2 : Int) ^ i = B at *
    have vm := v_wMul (r + B) (r + B) (by omega) (by omega) (by omega) (by omega)
    by_cases g : (r + B) * (r + B) - n ≤ 0
    · skip
      try simp only [r56_0, r56_1, r56_2, r56_3, r56_5, r56_6, r56_7, r56_4, r56_8, c56, F56, l56_0, q4, q0, q3, c3, c4, c5, hB, eo, vm, vo, v_NCmp, cmpW, sgn_le, g, Int.toNat_natCast, go_sem, Int.reduceTMod, Int.reduceTDiv, Int.reduceDiv, Int.reduceMod, Int.reduceAdd, Int.reduceSub, Int.reduceMul, Int.reduceNeg, Int.reducePow, Int.reduceEq, ↓reduceIte, Nat.reduceEqDiff, Nat.reduceAdd, Nat.reduceMul, Nat.reduceLeDiff, Nat.reduceSub, Nat.reduceLT, Int.reduceToNat, Int.reduceLT, Int.reduceLE, reduceCtorEq]
      repeat' ((first | refine FK_split (fun h_ => ?_) (fun h_ => ?_) | refine GK_split (fun h_ => ?_) (fun h_ => ?_) | refine ite_both (fun h_ => ?_) (fun h_ => ?_)) <;> (try simp only [decide_eq_true_eq, decide_eq_false_iff_not, Bool.not_true, Bool.not_false, Bool.not_eq_true', Bool.not_eq_false', Bool.not_eq_eq_eq_not, Decidable.not_not] at h_) <;> (try simp only [r56_0, r56_1, r56_2, r56_3, r56_5, r56_6, r56_7, r56_4, r56_8, c56, F56, l56_0, q4, q0, q3, c3, c4, c5, hB, eo, vm, vo, v_NCmp, cmpW, sgn_le, g, Int.toNat_natCast, h_, go_sem, Int.reduceTMod, Int.reduceTDiv, Int.reduceDiv, Int.reduceMod, Int.reduceAdd, Int.reduceSub, Int.reduceMul, Int.reduceNeg, Int.reducePow, Int.reduceEq, ↓reduceIte, Nat.reduceEqDiff, Nat.reduceAdd, Nat.reduceMul, Nat.reduceLeDiff, Nat.reduceSub, Nat.reduceLT, Int.reduceToNat, Int.reduceLT, Int.reduceLE, reduceCtorEq]))
      refine next _ ⟨?_, ?_, r + B, ?_, by omega, by rw [e31, hB]; exact mod1, by rw [e31, hB]; omega, by omega, ?_⟩
      · simp only [go_sem, Int.reduceTMod, Int.reduceTDiv, Int.reduceDiv, Int.reduceMod, Int.reduceAdd, Int.reduceSub, Int.reduceMul, Int.reduceNeg, Int.reducePow, Int.reduceEq, ↓reduceIte, Nat.reduceEqDiff, Nat.reduceAdd, Nat.reduceMul, Nat.reduceLeDiff, Nat.reduceSub, Nat.reduceLT, Int.reduceToNat, Int.reduceLT, Int.reduceLE, reduceCtorEq]
      · simp only [q0, go_sem, Int.reduceTMod, Int.reduceTDiv, Int.reduceDiv, Int.reduceMod, Int.reduceAdd, Int.reduceSub, Int.reduceMul, Int.reduceNeg, Int.reducePow, Int.reduceEq, ↓reduceIte, Nat.reduceEqDiff, Nat.reduceAdd, Nat.reduceMul, Nat.reduceLeDiff, Nat.reduceSub, Nat.reduceLT, Int.reduceToNat, Int.reduceLT, Int.reduceLE, reduceCtorEq]
      · simp only [go_sem, Int.reduceTMod, Int.reduceTDiv, Int.reduceDiv, Int.reduceMod, Int.reduceAdd, Int.reduceSub, Int.reduceMul, Int.reduceNeg, Int.reducePow, Int.reduceEq, ↓reduceIte, Nat.reduceEqDiff, Nat.reduceAdd, Nat.reduceMul, Nat.reduceLeDiff, Nat.reduceSub, Nat.reduceLT, Int.reduceToNat, Int.reduceLT, Int.reduceLE, reduceCtorEq]
      · rw [e31, hB, show r + B + B = r + B * 2 by omega]
        exact h4
    · skip
      try simp only [r56_0, r56_1, r56_2, r56_3, r56_5, r56_6, r56_7, r56_4, r56_8, c56, F56, l56_0, q4, q0, q3, c3, c4, c5, hB, eo, vm, vo, v_NCmp, cmpW, sgn_le, g, Int.toNat_natCast, go_sem, Int.reduceTMod, Int.reduceTDiv, Int.reduceDiv, Int.reduceMod, Int.reduceAdd, Int.reduceSub, Int.reduceMul, Int.reduceNeg, Int.reducePow, Int.reduceEq, ↓reduceIte, Nat.reduceEqDiff, Nat.reduceAdd, Nat.reduceMul, Nat.reduceLeDiff, Nat.reduceSub, Nat.reduceLT, Int.reduceToNat, Int.reduceLT, Int.reduceLE, reduceCtorEq]
      repeat' ((first | refine FK_split (fun h_ => ?_) (fun h_ => ?_) | refine GK_split (fun h_ => ?_) (fun h_ => ?_) | refine ite_both (fun h_ => ?_) (fun h_ => ?_)) <;> (try simp only [decide_eq_true_eq, decide_eq_false_iff_not, Bool.not_true, Bool.not_false, Bool.not_eq_true', Bool.not_eq_false', Bool.not_eq_eq_eq_not, Decidable.not_not] at h_) <;> (try simp only [r56_0, r56_1, r56_2, r56_3, r56_5, r56_6, r56_7, r56_4, r56_8, c56, F56, l56_0, q4, q0, q3, c3, c4, c5, hB, eo, vm, vo, v_NCmp, cmpW, sgn_le, g, Int.toNat_natCast, h_, go_sem, Int.reduceTMod, Int.reduceTDiv, Int.reduceDiv, Int.reduceMod, Int.reduceAdd, Int.reduceSub, Int.reduceMul, Int.reduceNeg, Int.reducePow, Int.reduceEq, ↓reduceIte, Nat.reduceEqDiff, Nat.reduceAdd, Nat.reduceMul, Nat.reduceLeDiff, Nat.reduceSub, Nat.reduceLT, Int.reduceToNat, Int.reduceLT, Int.reduceLE, reduceCtorEq]))
      refine next _ ⟨?_, ?_, r, ?_, h0, by rw [e31, hB]; exact mod0, by rw [e31, hB]; omega, h3, ?_⟩
      · simp only [go_sem, Int.reduceTMod, Int.reduceTDiv, Int.reduceDiv, Int.reduceMod, Int.reduceAdd, Int.reduceSub, Int.reduceMul, Int.reduceNeg, Int.reducePow, Int.reduceEq, ↓reduceIte, Nat.reduceEqDiff, Nat.reduceAdd, Nat.reduceMul, Nat.reduceLeDiff, Nat.reduceSub, Nat.reduceLT, Int.reduceToNat, Int.reduceLT, Int.reduceLE, reduceCtorEq]
      · simp only [q0, go_sem, Int.reduceTMod, Int.reduceTDiv, Int.reduceDiv, Int.reduceMod, Int.reduceAdd, Int.reduceSub, Int.reduceMul, Int.reduceNeg, Int.reducePow, Int.reduceEq, ↓reduceIte, Nat.reduceEqDiff, Nat.reduceAdd, Nat.reduceMul, Nat.reduceLeDiff, Nat.reduceSub, Nat.reduceLT, Int.reduceToNat, Int.reduceLT, Int.reduceLE, reduceCtorEq]
      · simp only [q3, go_sem, Int.reduceTMod, Int.reduceTDiv, Int.reduceDiv, Int.reduceMod, Int.reduceAdd, Int.reduceSub, Int.reduceMul, Int.reduceNeg, Int.reducePow, Int.reduceEq, ↓reduceIte, Nat.reduceEqDiff, Nat.reduceAdd, Nat.reduceMul, Nat.reduceLeDiff, Nat.reduceSub, Nat.reduceLT, Int.reduceToNat, Int.reduceLT, Int.reduceLE, reduceCtorEq]
      · rw [e31, hB]; omega
  · obtain ⟨q4, q0, r, q3, h0, h1, h2, h3, h4⟩ := hs
    have e : isq n = r := isq_eq h0 h3 (by simpa using h4)
    try simp only [r56_0, r56_1, r56_2, r56_3, r56_5, r56_6, r56_7, r56_4, r56_8, c56, F56, l56_0, q4, q0, q3, e, go_sem, Int.reduceTMod, Int.reduceTDiv, Int.reduceDiv, Int.reduceMod, Int.reduceAdd, Int.reduceSub, Int.reduceMul, Int.reduceNeg, Int.reducePow, Int.reduceEq, ↓reduceIte, Nat.reduceEqDiff, Nat.reduceAdd, Nat.reduceMul, Nat.reduceLeDiff, Nat.reduceSub, Nat.reduceLT, Int.reduceToNat, Int.reduceLT, Int.reduceLE, reduceCtorEq]
    repeat' ((first | refine FK_split (fun h_ => ?_) (fun h_ => ?_) | refine GK_split (fun h_ => ?_) (fun h_ => ?_) | refine ite_both (fun h_ => ?_) (fun h_ => ?_)) <;> (try simp only [decide_eq_true_eq, decide_eq_false_iff_not, Bool.not_true, Bool.not_false, Bool.not_eq_true', Bool.not_eq_false', Bool.not_eq_eq_eq_not, Decidable.not_not] at h_) <;> (try simp only [r56_0, r56_1, r56_2, r56_3, r56_5, r56_6, r56_7, r56_4, r56_8, c56, F56, l56_0, q4, q0, q3, e, h_, go_sem, Int.reduceTMod, Int.reduceTDiv, Int.reduceDiv, Int.reduceMod, Int.reduceAdd, Int.reduceSub, Int.reduceMul, Int.reduceNeg, Int.reducePow, Int.reduceEq, ↓reduceIte, Nat.reduceEqDiff, Nat.reduceAdd, Nat.reduceMul, Nat.reduceLeDiff, Nat.reduceSub, Nat.reduceLT, Int.reduceToNat, Int.reduceLT, Int.reduceLE, reduceCtorEq]))
  · refine ⟨?_, ?_, 0, ?_, by decide, by decide, by decide, by omega, ?_⟩
    · simp only [go_sem, Int.reduceTMod, Int.reduceTDiv, Int.reduceDiv, Int.reduceMod, Int.reduceAdd, Int.reduceSub, Int.reduceMul, Int.reduceNeg, Int.reducePow, Int.reduceEq, ↓reduceIte, Nat.reduceEqDiff, Nat.reduceAdd, Nat.reduceMul, Nat.reduceLeDiff, Nat.reduceSub, Nat.reduceLT, Int.reduceToNat, Int.reduceLT, Int.reduceLE, reduceCtorEq]
    · simp only [go_sem, Int.reduceTMod, Int.reduceTDiv, Int.reduceDiv, Int.reduceMod, Int.reduceAdd, Int.reduceSub, Int.reduceMul, Int.reduceNeg, Int.reducePow, Int.reduceEq, ↓reduceIte, Nat.reduceEqDiff, Nat.reduceAdd, Nat.reduceMul, Nat.reduceLeDiff, Nat.reduceSub, Nat.reduceLT, Int.reduceToNat, Int.reduceLT, Int.reduceLE, reduceCtorEq]
    · simp only [go_sem, Int.reduceTMod, Int.reduceTDiv, Int.reduceDiv, Int.reduceMod, Int.reduceAdd, Int.reduceSub, Int.reduceMul, Int.reduceNeg, Int.reducePow, Int.reduceEq, ↓reduceIte, Nat.reduceEqDiff, Nat.reduceAdd, Nat.reduceMul, Nat.reduceLeDiff, Nat.reduceSub, Nat.reduceLT, Int.reduceToNat, Int.reduceLT, Int.reduceLE, reduceCtorEq]
    · have : ((0 : Int) + 2 ^ (32 - 0)) * (0 + 2 ^ (32 - 0)) = 18446744073709551616 := by decide
      rw [this]; omega
end Go.Proofs.Ytffhhgcgnillaaa.Sy
