/- Package geom walked: places in room, sides. Conditions: those that each theorem names. -/
import Derived.Test.YtkdbnmohpanpfaaRmA
namespace Go.Proofs.Ytkdbnmohpanpfaa.Sy
open Go Go.Proofs
set_option linter.unusedSimpArgs false
set_option linter.unusedVariables false
set_option maxRecDepth 20000
attribute [local go_sem] XK_seq XK_block XK_skip XK_exit XK_ret XK_cond XK_reg XK_dreg XK_ureg KN_seq KN_blk KN_lp KN_chk KN_chku KN_top KN_fin KX_seq KX_lp KX_blk KX_chk KX_top KR_seq KR_blk KR_lp KR_chk KR_top KR_fin FK_true FK_false RK_nil RK_mv RK_pick RK_alloc RK_box RK_build RK_bslice RK_load1 RK_loadA RK_store RK_nilchk RK_bin RK_beq RK_eqv RK_eqnil RK_un RK_conv RK_mkfn RK_mkslice RK_slS RK_slA RK_fadr RK_fld RK_iadrA RK_iadrS RK_idxA RK_istr RK_ext RK_lenC RK_cap RK_app RK_appz RK_pre RK_cpy RK_mn RK_mx RK_len RK_carry RK_clr carryR um0 um1 ThenK_some RK_guard GK_tt GK_ff GK_tf GK_ft GK_none QK_some RK_callQ RK_callZ RK_callT TK_some VK_clo RK_callV
  evalOp evO evOs upd_at unfrz_at putE_some putE_none boolOf_b boolOf_tup Option.map_some evRes pack_one pack_two pack_three pack_none List.getD_cons_zero List.getD_cons_succ getD_nil
  Option.some.injEq exists_eq_left' Reg.cs? fillC setL List.set_cons_zero List.set_cons_succ List.length_cons List.length_nil rd_upd rd_updn rdB wr List.drop_zero List.drop_succ_cons List.take_succ_cons List.take_zero List.getElem?_cons_zero List.getElem?_cons_succ
  ix Int.toNat_zero lenO_sl lenO_nil nadd na_eq na_eq' na_lt na_ee na_ll na_ne na_ne' na_tt
attribute [local go_sem] Reg.flat_one Reg.flat_agg Reg.flat_tup flats_nil flats_cons Cell.flat_sc Cell.flat_ptr List.all_cons List.all_nil disOk safeOk safeR decide_eq_true_eq decide_eq_false_iff_not
  List.map_cons List.map_nil List.cons_append List.nil_append List.append_nil evalOp.capsOf Bool.false_bne Bool.bne_false Bool.true_bne Bool.bne_true bne_self_eq_false beq_self_eq_true Bool.not_not Bool.false_and Bool.and_false Bool.true_or Bool.or_true beq_iff_eq eqCells
  Bool.true_beq Bool.false_beq Bool.not_eq_true' Bool.not_eq_eq_eq_not Bool.not_eq_false' and_false false_and frz_at idOf noId Option.isSome_some Bool.and_eq_true
attribute [local go_sem] wr_eq bV_add bV_sub bV_mul bV_eql bV_neq bV_lss bV_leq bV_gtr bV_geq bV_quo bV_rem bV_shr bV_shl uV_not uV_neg wrapU bits_and bits_or bits_xor IntKind.bits Nat.min_eq_left Nat.min_eq_right Nat.min_self
attribute [local go_sem] bne_iff_ne Int.cast_ofNat_Int Nat.zero_add Nat.add_zero and_self and_true true_and ne_eq not_false_eq_true not_true_eq_false decide_true decide_false Bool.false_eq_true Bool.not_true Bool.not_false Bool.true_and Bool.and_true Bool.or_false Bool.false_or Bool.and_self

/-- Twice the area of three places, with its sign. -/
def cross (ax ay bx b_y cx cy : Int) : Int := (bx - ax) * (cy - ay) - (b_y - ay) * (cx - ax)
theorem cmpN_eq (x y : Int) : cmpN (x / 18446744073709551616) (x % 18446744073709551616) (y / 18446744073709551616) (y % 18446744073709551616) = sgn (x - y) := by
  unfold cmpN
  simp only [sgn_sub]
  repeat' split
  all_goals omega
theorem small_mul {a b : Int} (ha : -4294967296 ≤ a ∧ a ≤ 4294967296) (hb : -4294967296 ≤ b ∧ b ≤ 4294967296) : -18446744073709551616 ≤ a * b ∧ a * b ≤ 18446744073709551616 := by
  have key : ∀ x y : Int, 0 ≤ x → x ≤ 4294967296 → 0 ≤ y → y ≤ 4294967296 → 0 ≤ x * y ∧ x * y ≤ 18446744073709551616 := by
    intro x y h1 h2 h3 h4
    exact ⟨Int.mul_nonneg h1 h3, Int.le_trans (Int.mul_le_mul_of_nonneg_right h2 h3) (by omega)⟩
  rcases Int.le_total 0 a with h | h <;> rcases Int.le_total 0 b with h' | h'
  · have := key a b h (by omega) h' (by omega); omega
  · have := key a (-b) h (by omega) (by omega) (by omega); rw [Int.mul_neg] at this; omega
  · have := key b (-a) h' (by omega) (by omega) (by omega); rw [Int.mul_neg, Int.mul_comm] at this; omega
  · have := key (-a) (-b) (by omega) (by omega) (by omega) (by omega); rw [Int.neg_mul_neg] at this; omega

theorem v_Side (ax ay bx b_y cx cy : Int) (h1 : rm ax = true) (h2 : rm ay = true) (h3 : rm bx = true) (h4 : rm b_y = true) (h5 : rm cx = true) (h6 : rm cy = true) (m : Mem) (n : Nat) :
    callF TA 46 [.agg [I ax, I ay], .agg [I bx, I b_y], .agg [I cx, I cy]] m n = some (RI (sgn (cross ax ay bx b_y cx cy))) := by
  refine callF_of (Fn_ofK (fn := F46) rfl (by simp [F46]) ?_)
  rw [rm_iff] at h1 h2 h3 h4 h5 h6
  have w : ∀ a b : Int, (-2147483648 ≤ a ∧ a ≤ 2147483648) → (-2147483648 ≤ b ∧ b ≤ 2147483648) → IntKind.i64.wrap (a - b) = a - b := fun a b h k => wr_eq (by omega) (by omega)
  have v1 := fun m n => v_wMul (bx - ax) (cy - ay) (by omega) (by omega) (by omega) (by omega) m n
  have v2 := fun m n => v_wMul (b_y - ay) (cx - ax) (by omega) (by omega) (by omega) (by omega) m n
  try simp only [r46_0, r46_1, c46, F46, w bx ax h3 h1, w cy ay h6 h2, w b_y ay h4 h2, w cx ax h5 h1, v1, v2, v_NCmp, cmpN_eq, cross, go_sem, Int.reduceTMod, Int.reduceTDiv, Int.reduceDiv, Int.reduceMod, Int.reduceAdd, Int.reduceSub, Int.reduceMul, Int.reduceNeg, Int.reducePow, Int.reduceEq, ↓reduceIte, Nat.reduceEqDiff, Nat.reduceAdd, Nat.reduceMul, Nat.reduceLeDiff, Nat.reduceSub, Nat.reduceLT, Int.reduceToNat, Int.reduceLT, Int.reduceLE, reduceCtorEq]
  repeat' ((first | refine FK_split (fun h_ => ?_) (fun h_ => ?_) | refine GK_split (fun h_ => ?_) (fun h_ => ?_) | refine ite_both (fun h_ => ?_) (fun h_ => ?_)) <;> (try simp only [decide_eq_true_eq, decide_eq_false_iff_not, Bool.not_true, Bool.not_false, Bool.not_eq_true', Bool.not_eq_false', Bool.not_eq_eq_eq_not, Decidable.not_not] at h_) <;> (try simp only [r46_0, r46_1, c46, F46, w bx ax h3 h1, w cy ay h6 h2, w b_y ay h4 h2, w cx ax h5 h1, v1, v2, v_NCmp, cmpN_eq, cross, h_, go_sem, Int.reduceTMod, Int.reduceTDiv, Int.reduceDiv, Int.reduceMod, Int.reduceAdd, Int.reduceSub, Int.reduceMul, Int.reduceNeg, Int.reducePow, Int.reduceEq, ↓reduceIte, Nat.reduceEqDiff, Nat.reduceAdd, Nat.reduceMul, Nat.reduceLeDiff, Nat.reduceSub, Nat.reduceLT, Int.reduceToNat, Int.reduceLT, Int.reduceLE, reduceCtorEq]))
end Go.Proofs.Ytkdbnmohpanpfaa.Sy
