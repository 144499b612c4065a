/- The reference of chapter 02 walked: bits of a number. Conditions: those that each theorem names. -/
import Derived.Test.YtjgkommhdodghaaWdA
import Derived.Test.YtjgkommhdodghaaWbA
namespace Go.Proofs.Ytjgkommhdodghaa.Sy
open Go Go.Proofs
set_option linter.unusedSimpArgs false
set_option linter.unusedVariables false
set_option maxRecDepth 20000
attribute [local go_sem] XK_seq XK_block XK_skip XK_exit XK_ret XK_cond XK_reg XK_dreg XK_ureg KN_seq KN_blk KN_lp KN_chk KN_chku KN_top KN_fin KX_seq KX_lp KX_blk KX_chk KX_top KR_seq KR_blk KR_lp KR_chk KR_top KR_fin FK_true FK_false RK_nil RK_mv RK_pick RK_alloc RK_box RK_build RK_bslice RK_load1 RK_loadA RK_store RK_nilchk RK_bin RK_beq RK_eqv RK_eqnil RK_un RK_conv RK_mkfn RK_mkslice RK_slS RK_slA RK_fadr RK_fld RK_iadrA RK_iadrS RK_idxA RK_ext RK_lenC RK_cap RK_app RK_cpy RK_mn RK_mx RK_len RK_carry RK_clr carryR um0 um1 ThenK_some RK_guard GK_tt GK_ff GK_tf GK_ft GK_none QK_some RK_callQ RK_callZ VK_clo RK_callV
  evalOp evO evOs upd_at unfrz_at putE_some putE_none boolOf_b boolOf_tup Option.map_some evRes pack_one pack_two pack_three pack_none List.getD_cons_zero List.getD_cons_succ getD_nil
  Option.some.injEq exists_eq_left' Reg.cs? fillC setL List.set_cons_zero List.set_cons_succ List.length_cons List.length_nil rd_upd rdB wr List.drop_zero List.drop_succ_cons List.take_succ_cons List.take_zero List.getElem?_cons_zero List.getElem?_cons_succ
  ix Int.toNat_zero lenO_sl lenO_nil nadd na_eq na_eq' na_lt na_ee na_ll na_ne na_ne' na_tt
attribute [local go_sem] Reg.flat_one Reg.flat_agg Reg.flat_tup flats_nil flats_cons Cell.flat_sc Cell.flat_ptr List.all_cons List.all_nil disOk safeOk safeR decide_eq_true_eq decide_eq_false_iff_not
  List.map_cons List.map_nil List.cons_append List.nil_append List.append_nil evalOp.capsOf Bool.false_bne Bool.bne_false Bool.true_bne Bool.bne_true bne_self_eq_false beq_self_eq_true Bool.not_not Bool.false_and Bool.and_false Bool.true_or Bool.or_true beq_iff_eq eqCells
  Bool.true_beq Bool.false_beq Bool.not_eq_true' Bool.not_eq_eq_eq_not Bool.not_eq_false' and_false false_and frz_at idOf Option.isSome_some Bool.and_eq_true
attribute [local go_sem] wr_eq bV_add bV_sub bV_mul bV_eql bV_neq bV_lss bV_leq bV_gtr bV_geq bV_quo bV_rem bV_shr bV_shl uV_not uV_neg wrapU bits_and bits_or bits_xor IntKind.bits Nat.min_eq_left Nat.min_eq_right Nat.min_self

theorem bit_mod64 {A B : Int} (h : (A - B) % 18446744073709551616 = 0) {i : Nat} (hi : i < 64) : bit A i = bit B i := by
  obtain ⟨q, hq⟩ := Int.dvd_of_emod_eq_zero h
  have e : A = B + 2 ^ (i + 1) * (2 ^ (64 - (i + 1)) * q) := by
    rw [← Int.mul_assoc, ← pow_split (show i + 1 ≤ 64 by omega)]
    have : (2 : Int) ^ 64 = 18446744073709551616 := by decide
    rw [this]; omega
  have e2 : A / 2 ^ i = B / 2 ^ i + 2 * (2 ^ (64 - (i + 1)) * q) := by
    rw [e, Int.pow_succ, Int.mul_assoc, Int.add_mul_ediv_left _ _ (by have := pow_pos2 i; omega)]
  unfold bit
  rw [e2]
  congr 1
  apply propext
  omega
def bitsF (lo h : Int) (i : Nat) : Nat → Bool := fun j => if j < i then bit lo j else if 64 ≤ j ∧ j < 64 + i then bit h (j - 64) else false
theorem bitsF_step (lo h : Int) (i : Nat) (hi : i < 64) : putB (putB (bitsF lo h i) i (bit lo i)) (i + 64) (bit h i) = bitsF lo h (i + 1) := by
  funext j
  unfold putB bitsF
  by_cases c1 : j = i + 64
  · subst c1
    rw [if_pos rfl, if_neg (by omega), if_pos (by omega), show i + 64 - 64 = i by omega]
  · rw [if_neg c1]
    by_cases c2 : j = i
    · subst c2
      rw [if_pos rfl, if_pos (by omega)]
    · rw [if_neg c2]
      by_cases c3 : j < i
      · rw [if_pos c3, if_pos (by omega)]
      · rw [if_neg c3, if_neg (show ¬ j < i + 1 by omega)]
        by_cases c4 : 64 ≤ j ∧ j < 64 + i
        · rw [if_pos c4, if_pos (by omega)]
        · rw [if_neg c4, if_neg (by omega)]
theorem bitsF_all (hi lo : Int) (h0 : 0 ≤ lo) (h1 : lo < 18446744073709551616) : arr 128 (bitsF lo (hi % 18446744073709551616) 64) = bitsOf (hi * 18446744073709551616 + lo) := by
  refine arr_congr fun i hi' => ?_
  unfold bitsF
  by_cases c : i < 64
  · rw [if_pos c]
    exact bit_mod64 (by omega) c
  · rw [if_neg c, if_pos (by omega)]
    obtain ⟨k, rfl⟩ : ∃ k, i = 64 + k := ⟨i - 64, by omega⟩
    rw [show 64 + k - 64 = k by omega, bit_mod64 (B := hi) (by omega) (by omega)]
    unfold bit
    have e : (2 : Int) ^ (64 + k) = 18446744073709551616 * 2 ^ k := by rw [Int.pow_add]; rfl
    rw [e, ← Int.ediv_ediv_of_nonneg (by decide), show (hi * 18446744073709551616 + lo) / 18446744073709551616 = hi by omega]

theorem v_Bits (hi lo : Int) (h0 : 0 ≤ lo) (h1 : lo < 18446744073709551616) (m : Mem) (n : Nat) :
    callF TA 30 [RI hi, RU lo] m n = some (.agg (bitsOf (hi * 18446744073709551616 + lo))) := by
  refine callF_of (Fn_ofK (fn := F30) rfl (by simp [F30]) ?_)
  rw [← bitsF_all hi lo h0 h1]
  obtain ⟨h, hh⟩ : ∃ h, h = hi % 18446744073709551616 := ⟨_, rfl⟩
  rw [← hh]
  try simp only [r30_0, r30_1, r30_2, r30_3, r30_4, r30_6, r30_7, r30_8, r30_9, r30_5, r30_10, c30, F30, arr_zero, ← hh, go_sem, Int.reduceTMod, Int.reduceTDiv, Int.reduceDiv, Int.reduceMod, Int.reduceAdd, Int.reduceSub, Int.reduceMul, Int.reduceNeg, Int.reducePow, Int.reduceEq, bne_iff_ne, Int.cast_ofNat_Int, ↓reduceIte, Nat.reduceEqDiff, Nat.reduceAdd, Nat.reduceMul, Nat.reduceLeDiff, Nat.reduceSub, Nat.reduceLT, Int.reduceToNat, Int.reduceLT, Int.reduceLE, reduceCtorEq, Nat.zero_add, Nat.add_zero, and_self, and_true, true_and, ne_eq, not_false_eq_true, not_true_eq_false, decide_true, decide_false, Bool.false_eq_true, Bool.not_true, Bool.not_false, Bool.true_and, Bool.and_true, Bool.or_false, Bool.false_or, Bool.and_self]
  repeat' (first | (refine FK_split (fun h_ => ?_) (fun h_ => ?_) <;> (try simp only [decide_eq_true_eq, decide_eq_false_iff_not, Bool.not_true, Bool.not_false, Bool.not_eq_true', Bool.not_eq_false', Bool.not_eq_eq_eq_not, Decidable.not_not] at h_) <;> (try simp only [r30_0, r30_1, r30_2, r30_3, r30_4, r30_6, r30_7, r30_8, r30_9, r30_5, r30_10, c30, F30, arr_zero, ← hh, h_, go_sem, Int.reduceTMod, Int.reduceTDiv, Int.reduceDiv, Int.reduceMod, Int.reduceAdd, Int.reduceSub, Int.reduceMul, Int.reduceNeg, Int.reducePow, Int.reduceEq, bne_iff_ne, Int.cast_ofNat_Int, ↓reduceIte, Nat.reduceEqDiff, Nat.reduceAdd, Nat.reduceMul, Nat.reduceLeDiff, Nat.reduceSub, Nat.reduceLT, Int.reduceToNat, Int.reduceLT, Int.reduceLE, reduceCtorEq, Nat.zero_add, Nat.add_zero, and_self, and_true, true_and, ne_eq, not_false_eq_true, not_true_eq_false, decide_true, decide_false, Bool.false_eq_true, Bool.not_true, Bool.not_false, Bool.true_and, Bool.and_true, Bool.or_false, Bool.false_or, Bool.and_self])) | (refine GK_split (fun h_ => ?_) (fun h_ => ?_) <;> (try simp only [decide_eq_true_eq, decide_eq_false_iff_not, Bool.not_true, Bool.not_false, Bool.not_eq_true', Bool.not_eq_false', Bool.not_eq_eq_eq_not, Decidable.not_not] at h_) <;> (try simp only [r30_0, r30_1, r30_2, r30_3, r30_4, r30_6, r30_7, r30_8, r30_9, r30_5, r30_10, c30, F30, arr_zero, ← hh, h_, go_sem, Int.reduceTMod, Int.reduceTDiv, Int.reduceDiv, Int.reduceMod, Int.reduceAdd, Int.reduceSub, Int.reduceMul, Int.reduceNeg, Int.reducePow, Int.reduceEq, bne_iff_ne, Int.cast_ofNat_Int, ↓reduceIte, Nat.reduceEqDiff, Nat.reduceAdd, Nat.reduceMul, Nat.reduceLeDiff, Nat.reduceSub, Nat.reduceLT, Int.reduceToNat, Int.reduceLT, Int.reduceLE, reduceCtorEq, Nat.zero_add, Nat.add_zero, and_self, and_true, true_and, ne_eq, not_false_eq_true, not_true_eq_false, decide_true, decide_false, Bool.false_eq_true, Bool.not_true, Bool.not_false, Bool.true_and, Bool.and_true, Bool.or_false, Bool.false_or, Bool.and_self])) | (refine ite_both (fun h_ => ?_) (fun h_ => ?_) <;> (try simp only [r30_0, r30_1, r30_2, r30_3, r30_4, r30_6, r30_7, r30_8, r30_9, r30_5, r30_10, c30, F30, arr_zero, ← hh, h_, go_sem, Int.reduceTMod, Int.reduceTDiv, Int.reduceDiv, Int.reduceMod, Int.reduceAdd, Int.reduceSub, Int.reduceMul, Int.reduceNeg, Int.reducePow, Int.reduceEq, bne_iff_ne, Int.cast_ofNat_Int, ↓reduceIte, Nat.reduceEqDiff, Nat.reduceAdd, Nat.reduceMul, Nat.reduceLeDiff, Nat.reduceSub, Nat.reduceLT, Int.reduceToNat, Int.reduceLT, Int.reduceLE, reduceCtorEq, Nat.zero_add, Nat.add_zero, and_self, and_true, true_and, ne_eq, not_false_eq_true, not_true_eq_false, decide_true, decide_false, Bool.false_eq_true, Bool.not_true, Bool.not_false, Bool.true_and, Bool.and_true, Bool.or_false, Bool.false_or, Bool.and_self])))
  refine XK_iter (inv := fun i s => s.e 7 = RI i ∧ s.e 1 = RU (lo / 2 ^ i) ∧ s.e 6 = RU (h / 2 ^ i) ∧ s.e 5 = .one (.ptr (n + 1) 0) ∧ s.e 4 = .one (.ptr n 0) ∧ s.m (n + 1) = some ⟨arr 128 (bitsF lo h i), true⟩ ∧ s.m n = some ⟨arr 128 (fun _ => false), true⟩ ∧ s.n = n + 2) 64
    (fun B _ => ⟨fun i hi s hs next => ?_, fun s hs => ?_⟩) 0 (by omega) _ ?_
  · obtain ⟨q7, q1, q6, q5, q4, qa, qb, qn⟩ := hs
    have p0 : ∀ V : Int, 0 ≤ V → 0 ≤ V / 2 ^ i := fun V hV => Int.ediv_nonneg hV (Int.le_of_lt (pow_pos2 i))
    have p1 : ∀ V : Int, 0 ≤ V → V / 2 ^ i ≤ V := fun V hV => Int.ediv_le_self _ hV
    have a1 : (lo / 2 ^ i).tmod 2 = lo / 2 ^ i % 2 := Int.tmod_eq_emod_of_nonneg (p0 _ h0)
    have a2 : (h / 2 ^ i).tmod 2 = h / 2 ^ i % 2 := Int.tmod_eq_emod_of_nonneg (p0 _ (by omega))
    have a3 : (lo / 2 ^ i).tdiv 2 % 18446744073709551616 = lo / 2 ^ (i + 1) := by
      have := p0 _ h0; have := p1 _ h0
      rw [half, Int.tdiv_eq_ediv_of_nonneg (p0 _ h0)]; omega
    have a4 : (h / 2 ^ i).tdiv 2 % 18446744073709551616 = h / 2 ^ (i + 1) := by
      have := p0 h (by omega); have := p1 h (by omega)
      rw [half, Int.tdiv_eq_ediv_of_nonneg (p0 _ (by omega))]; omega
    have c1 : ((i : Int) < 64) = True := eq_true (by omega)
    have c2 : ((i : Int) < 128) = True := eq_true (by omega)
    have c3 : (0 ≤ (i : Int)) = True := eq_true (by omega)
    have c4 : IntKind.i64.wrap ((i : Int) + 64) = ((i + 64 : Nat) : Int) := (wr_eq (by omega) (by omega)).trans (by omega)
    have c5 : (((i + 64 : Nat) : Int) < 128) = True := eq_true (by omega)
    have c6 : (0 ≤ ((i + 64 : Nat) : Int)) = True := eq_true (by omega)
    have c7 : IntKind.i64.wrap ((i : Int) + 1) = ((i + 1 : Nat) : Int) := wr_nat (by omega)
    have c8 : i + 1 ≤ 128 := by omega
    have c9 : i + 64 + 1 ≤ 128 := by omega
    try simp only [r30_0, r30_1, r30_2, r30_3, r30_4, r30_6, r30_7, r30_8, r30_9, r30_5, r30_10, c30, F30, l30_0, q7, q1, q6, q5, q4, qa, qb, qn, a1, a2, a3, a4, c1, c2, c3, c4, c5, c6, c7, c8, c9, arr_len, arr_set, Int.toNat_natCast, Nat.mul_one, Nat.zero_add, go_sem, Int.reduceTMod, Int.reduceTDiv, Int.reduceDiv, Int.reduceMod, Int.reduceAdd, Int.reduceSub, Int.reduceMul, Int.reduceNeg, Int.reducePow, Int.reduceEq, bne_iff_ne, Int.cast_ofNat_Int, ↓reduceIte, Nat.reduceEqDiff, Nat.reduceAdd, Nat.reduceMul, Nat.reduceLeDiff, Nat.reduceSub, Nat.reduceLT, Int.reduceToNat, Int.reduceLT, Int.reduceLE, reduceCtorEq, Nat.zero_add, Nat.add_zero, and_self, and_true, true_and, ne_eq, not_false_eq_true, not_true_eq_false, decide_true, decide_false, Bool.false_eq_true, Bool.not_true, Bool.not_false, Bool.true_and, Bool.and_true, Bool.or_false, Bool.false_or, Bool.and_self]
    repeat' (first | (refine FK_split (fun h_ => ?_) (fun h_ => ?_) <;> (try simp only [decide_eq_true_eq, decide_eq_false_iff_not, Bool.not_true, Bool.not_false, Bool.not_eq_true', Bool.not_eq_false', Bool.not_eq_eq_eq_not, Decidable.not_not] at h_) <;> (try simp only [r30_0, r30_1, r30_2, r30_3, r30_4, r30_6, r30_7, r30_8, r30_9, r30_5, r30_10, c30, F30, l30_0, q7, q1, q6, q5, q4, qa, qb, qn, a1, a2, a3, a4, c1, c2, c3, c4, c5, c6, c7, c8, c9, arr_len, arr_set, Int.toNat_natCast, Nat.mul_one, Nat.zero_add, h_, go_sem, Int.reduceTMod, Int.reduceTDiv, Int.reduceDiv, Int.reduceMod, Int.reduceAdd, Int.reduceSub, Int.reduceMul, Int.reduceNeg, Int.reducePow, Int.reduceEq, bne_iff_ne, Int.cast_ofNat_Int, ↓reduceIte, Nat.reduceEqDiff, Nat.reduceAdd, Nat.reduceMul, Nat.reduceLeDiff, Nat.reduceSub, Nat.reduceLT, Int.reduceToNat, Int.reduceLT, Int.reduceLE, reduceCtorEq, Nat.zero_add, Nat.add_zero, and_self, and_true, true_and, ne_eq, not_false_eq_true, not_true_eq_false, decide_true, decide_false, Bool.false_eq_true, Bool.not_true, Bool.not_false, Bool.true_and, Bool.and_true, Bool.or_false, Bool.false_or, Bool.and_self])) | (refine GK_split (fun h_ => ?_) (fun h_ => ?_) <;> (try simp only [decide_eq_true_eq, decide_eq_false_iff_not, Bool.not_true, Bool.not_false, Bool.not_eq_true', Bool.not_eq_false', Bool.not_eq_eq_eq_not, Decidable.not_not] at h_) <;> (try simp only [r30_0, r30_1, r30_2, r30_3, r30_4, r30_6, r30_7, r30_8, r30_9, r30_5, r30_10, c30, F30, l30_0, q7, q1, q6, q5, q4, qa, qb, qn, a1, a2, a3, a4, c1, c2, c3, c4, c5, c6, c7, c8, c9, arr_len, arr_set, Int.toNat_natCast, Nat.mul_one, Nat.zero_add, h_, go_sem, Int.reduceTMod, Int.reduceTDiv, Int.reduceDiv, Int.reduceMod, Int.reduceAdd, Int.reduceSub, Int.reduceMul, Int.reduceNeg, Int.reducePow, Int.reduceEq, bne_iff_ne, Int.cast_ofNat_Int, ↓reduceIte, Nat.reduceEqDiff, Nat.reduceAdd, Nat.reduceMul, Nat.reduceLeDiff, Nat.reduceSub, Nat.reduceLT, Int.reduceToNat, Int.reduceLT, Int.reduceLE, reduceCtorEq, Nat.zero_add, Nat.add_zero, and_self, and_true, true_and, ne_eq, not_false_eq_true, not_true_eq_false, decide_true, decide_false, Bool.false_eq_true, Bool.not_true, Bool.not_false, Bool.true_and, Bool.and_true, Bool.or_false, Bool.false_or, Bool.and_self])) | (refine ite_both (fun h_ => ?_) (fun h_ => ?_) <;> (try simp only [r30_0, r30_1, r30_2, r30_3, r30_4, r30_6, r30_7, r30_8, r30_9, r30_5, r30_10, c30, F30, l30_0, q7, q1, q6, q5, q4, qa, qb, qn, a1, a2, a3, a4, c1, c2, c3, c4, c5, c6, c7, c8, c9, arr_len, arr_set, Int.toNat_natCast, Nat.mul_one, Nat.zero_add, h_, go_sem, Int.reduceTMod, Int.reduceTDiv, Int.reduceDiv, Int.reduceMod, Int.reduceAdd, Int.reduceSub, Int.reduceMul, Int.reduceNeg, Int.reducePow, Int.reduceEq, bne_iff_ne, Int.cast_ofNat_Int, ↓reduceIte, Nat.reduceEqDiff, Nat.reduceAdd, Nat.reduceMul, Nat.reduceLeDiff, Nat.reduceSub, Nat.reduceLT, Int.reduceToNat, Int.reduceLT, Int.reduceLE, reduceCtorEq, Nat.zero_add, Nat.add_zero, and_self, and_true, true_and, ne_eq, not_false_eq_true, not_true_eq_false, decide_true, decide_false, Bool.false_eq_true, Bool.not_true, Bool.not_false, Bool.true_and, Bool.and_true, Bool.or_false, Bool.false_or, Bool.and_self])))
    refine next _ ⟨?_, ?_, ?_, ?_, ?_, ?_, ?_, ?_⟩
    all_goals simp only [q4, q5, qb, qn, ← bitsF_step lo h i hi, bit, go_sem, Int.reduceTMod, Int.reduceTDiv, Int.reduceDiv, Int.reduceMod, Int.reduceAdd, Int.reduceSub, Int.reduceMul, Int.reduceNeg, Int.reducePow, Int.reduceEq, bne_iff_ne, Int.cast_ofNat_Int, ↓reduceIte, Nat.reduceEqDiff, Nat.reduceAdd, Nat.reduceMul, Nat.reduceLeDiff, Nat.reduceSub, Nat.reduceLT, Int.reduceToNat, Int.reduceLT, Int.reduceLE, reduceCtorEq, Nat.zero_add, Nat.add_zero, and_self, and_true, true_and, ne_eq, not_false_eq_true, not_true_eq_false, decide_true, decide_false, Bool.false_eq_true, Bool.not_true, Bool.not_false, Bool.true_and, Bool.and_true, Bool.or_false, Bool.false_or, Bool.and_self]
  · obtain ⟨q7, q1, q6, q5, q4, qa, qb, qn⟩ := hs
    try simp only [r30_0, r30_1, r30_2, r30_3, r30_4, r30_6, r30_7, r30_8, r30_9, r30_5, r30_10, c30, F30, l30_0, q7, q1, q6, q5, q4, qa, qb, qn, rd_of qa, rd_of qb, arr_len, arr_take, arr_setL, go_sem, Int.reduceTMod, Int.reduceTDiv, Int.reduceDiv, Int.reduceMod, Int.reduceAdd, Int.reduceSub, Int.reduceMul, Int.reduceNeg, Int.reducePow, Int.reduceEq, bne_iff_ne, Int.cast_ofNat_Int, ↓reduceIte, Nat.reduceEqDiff, Nat.reduceAdd, Nat.reduceMul, Nat.reduceLeDiff, Nat.reduceSub, Nat.reduceLT, Int.reduceToNat, Int.reduceLT, Int.reduceLE, reduceCtorEq, Nat.zero_add, Nat.add_zero, and_self, and_true, true_and, ne_eq, not_false_eq_true, not_true_eq_false, decide_true, decide_false, Bool.false_eq_true, Bool.not_true, Bool.not_false, Bool.true_and, Bool.and_true, Bool.or_false, Bool.false_or, Bool.and_self]
    repeat' (first | (refine FK_split (fun h_ => ?_) (fun h_ => ?_) <;> (try simp only [decide_eq_true_eq, decide_eq_false_iff_not, Bool.not_true, Bool.not_false, Bool.not_eq_true', Bool.not_eq_false', Bool.not_eq_eq_eq_not, Decidable.not_not] at h_) <;> (try simp only [r30_0, r30_1, r30_2, r30_3, r30_4, r30_6, r30_7, r30_8, r30_9, r30_5, r30_10, c30, F30, l30_0, q7, q1, q6, q5, q4, qa, qb, qn, rd_of qa, rd_of qb, arr_len, arr_take, arr_setL, h_, go_sem, Int.reduceTMod, Int.reduceTDiv, Int.reduceDiv, Int.reduceMod, Int.reduceAdd, Int.reduceSub, Int.reduceMul, Int.reduceNeg, Int.reducePow, Int.reduceEq, bne_iff_ne, Int.cast_ofNat_Int, ↓reduceIte, Nat.reduceEqDiff, Nat.reduceAdd, Nat.reduceMul, Nat.reduceLeDiff, Nat.reduceSub, Nat.reduceLT, Int.reduceToNat, Int.reduceLT, Int.reduceLE, reduceCtorEq, Nat.zero_add, Nat.add_zero, and_self, and_true, true_and, ne_eq, not_false_eq_true, not_true_eq_false, decide_true, decide_false, Bool.false_eq_true, Bool.not_true, Bool.not_false, Bool.true_and, Bool.and_true, Bool.or_false, Bool.false_or, Bool.and_self])) | (refine GK_split (fun h_ => ?_) (fun h_ => ?_) <;> (try simp only [decide_eq_true_eq, decide_eq_false_iff_not, Bool.not_true, Bool.not_false, Bool.not_eq_true', Bool.not_eq_false', Bool.not_eq_eq_eq_not, Decidable.not_not] at h_) <;> (try simp only [r30_0, r30_1, r30_2, r30_3, r30_4, r30_6, r30_7, r30_8, r30_9, r30_5, r30_10, c30, F30, l30_0, q7, q1, q6, q5, q4, qa, qb, qn, rd_of qa, rd_of qb, arr_len, arr_take, arr_setL, h_, go_sem, Int.reduceTMod, Int.reduceTDiv, Int.reduceDiv, Int.reduceMod, Int.reduceAdd, Int.reduceSub, Int.reduceMul, Int.reduceNeg, Int.reducePow, Int.reduceEq, bne_iff_ne, Int.cast_ofNat_Int, ↓reduceIte, Nat.reduceEqDiff, Nat.reduceAdd, Nat.reduceMul, Nat.reduceLeDiff, Nat.reduceSub, Nat.reduceLT, Int.reduceToNat, Int.reduceLT, Int.reduceLE, reduceCtorEq, Nat.zero_add, Nat.add_zero, and_self, and_true, true_and, ne_eq, not_false_eq_true, not_true_eq_false, decide_true, decide_false, Bool.false_eq_true, Bool.not_true, Bool.not_false, Bool.true_and, Bool.and_true, Bool.or_false, Bool.false_or, Bool.and_self])) | (refine ite_both (fun h_ => ?_) (fun h_ => ?_) <;> (try simp only [r30_0, r30_1, r30_2, r30_3, r30_4, r30_6, r30_7, r30_8, r30_9, r30_5, r30_10, c30, F30, l30_0, q7, q1, q6, q5, q4, qa, qb, qn, rd_of qa, rd_of qb, arr_len, arr_take, arr_setL, h_, go_sem, Int.reduceTMod, Int.reduceTDiv, Int.reduceDiv, Int.reduceMod, Int.reduceAdd, Int.reduceSub, Int.reduceMul, Int.reduceNeg, Int.reducePow, Int.reduceEq, bne_iff_ne, Int.cast_ofNat_Int, ↓reduceIte, Nat.reduceEqDiff, Nat.reduceAdd, Nat.reduceMul, Nat.reduceLeDiff, Nat.reduceSub, Nat.reduceLT, Int.reduceToNat, Int.reduceLT, Int.reduceLE, reduceCtorEq, Nat.zero_add, Nat.add_zero, and_self, and_true, true_and, ne_eq, not_false_eq_true, not_true_eq_false, decide_true, decide_false, Bool.false_eq_true, Bool.not_true, Bool.not_false, Bool.true_and, Bool.and_true, Bool.or_false, Bool.false_or, Bool.and_self])))
  · have z : bitsF lo h 0 = fun _ => false := by
      funext j
      unfold bitsF
      rw [if_neg (by omega), if_neg (by omega)]
    simp only [Int.pow_zero, Int.ediv_one, z, go_sem, Int.reduceTMod, Int.reduceTDiv, Int.reduceDiv, Int.reduceMod, Int.reduceAdd, Int.reduceSub, Int.reduceMul, Int.reduceNeg, Int.reducePow, Int.reduceEq, bne_iff_ne, Int.cast_ofNat_Int, ↓reduceIte, Nat.reduceEqDiff, Nat.reduceAdd, Nat.reduceMul, Nat.reduceLeDiff, Nat.reduceSub, Nat.reduceLT, Int.reduceToNat, Int.reduceLT, Int.reduceLE, reduceCtorEq, Nat.zero_add, Nat.add_zero, and_self, and_true, true_and, ne_eq, not_false_eq_true, not_true_eq_false, decide_true, decide_false, Bool.false_eq_true, Bool.not_true, Bool.not_false, Bool.true_and, Bool.and_true, Bool.or_false, Bool.false_or, Bool.and_self]
    trace_state
end Go.Proofs.Ytjgkommhdodghaa.Sy
