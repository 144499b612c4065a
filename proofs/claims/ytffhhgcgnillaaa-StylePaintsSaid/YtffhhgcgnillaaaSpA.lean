/- Points, quotients, lengths walked (chapter 16). Conditions: those that each theorem names. -/
import Derived.Test.YtffhhgcgnillaaaRtA
import Derived.Test.YtffhhgcgnillaaaSlA
import Derived.Test.YtffhhgcgnillaaaStN
import Derived.Test.YtffhhgcgnillaaaDvD
namespace Go.Proofs.Ytffhhgcgnillaaa.Sy
open Go Go.Proofs
set_option linter.unusedSimpArgs false
set_option linter.unusedVariables false
set_option maxRecDepth 20000
attribute [local go_sem] XK_seq XK_block XK_skip XK_exit XK_ret XK_cond XK_reg XK_dreg XK_ureg KN_seq KN_blk KN_lp KN_chk KN_chku KN_top KN_fin KX_seq KX_lp KX_blk KX_chk KX_top KR_seq KR_blk KR_lp KR_chk KR_top KR_fin FK_true FK_false RK_nil RK_mv RK_pick RK_alloc RK_box RK_build RK_bslice RK_load1 RK_loadA RK_store RK_nilchk RK_bin RK_beq RK_eqv RK_eqnil RK_un RK_conv RK_mkfn RK_mkslice RK_slS RK_slA RK_fadr RK_fld RK_iadrA RK_iadrS RK_idxA RK_istr RK_ext RK_lenC RK_cap RK_app RK_appz RK_pre RK_cpy RK_mn RK_mx RK_len RK_carry RK_clr carryR um0 um1 ThenK_some RK_guard GK_tt GK_ff GK_tf GK_ft GK_none QK_some RK_callQ RK_callZ RK_callT TK_some VK_clo RK_callV
  evalOp evO evOs upd_at unfrz_at putE_some putE_none boolOf_b boolOf_tup Option.map_some evRes pack_one pack_two pack_three pack_none List.getD_cons_zero List.getD_cons_succ getD_nil
  Option.some.injEq exists_eq_left' Reg.cs? fillC setL List.set_cons_zero List.set_cons_succ List.length_cons List.length_nil rd_upd rd_updn rdB wr List.drop_zero List.drop_succ_cons List.take_succ_cons List.take_zero List.getElem?_cons_zero List.getElem?_cons_succ
  ix Int.toNat_zero lenO_sl lenO_nil nadd na_eq na_eq' na_lt na_ee na_ll na_ne na_ne' na_tt
attribute [local go_sem] Reg.flat_one Reg.flat_agg Reg.flat_tup flats_nil flats_cons Cell.flat_sc Cell.flat_ptr List.all_cons List.all_nil disOk safeOk safeR decide_eq_true_eq decide_eq_false_iff_not
  List.map_cons List.map_nil List.cons_append List.nil_append List.append_nil evalOp.capsOf Bool.false_bne Bool.bne_false Bool.true_bne Bool.bne_true bne_self_eq_false beq_self_eq_true Bool.not_not Bool.false_and Bool.and_false Bool.true_or Bool.or_true beq_iff_eq eqCells
  Bool.true_beq Bool.false_beq Bool.not_eq_true' Bool.not_eq_eq_eq_not Bool.not_eq_false' and_false false_and frz_at idOf noId Option.isSome_some Bool.and_eq_true
attribute [local go_sem] wr_eq bV_add bV_sub bV_mul bV_eql bV_neq bV_lss bV_leq bV_gtr bV_geq bV_quo bV_rem bV_shr bV_shl uV_not uV_neg wrapU bits_and bits_or bits_xor IntKind.bits Nat.min_eq_left Nat.min_eq_right Nat.min_self
attribute [local go_sem] bne_iff_ne Int.cast_ofNat_Int Nat.zero_add Nat.add_zero and_self and_true true_and ne_eq not_false_eq_true not_true_eq_false decide_true decide_false Bool.false_eq_true Bool.not_true Bool.not_false Bool.true_and Bool.and_true Bool.or_false Bool.false_or Bool.and_self


def rm (a : Int) : Bool := decide (-2147483648 ≤ a) && decide (a ≤ 2147483648)
theorem rm_iff {a : Int} : rm a = true ↔ -2147483648 ≤ a ∧ a ≤ 2147483648 := by simp [rm]

theorem v_fIn (a : Int) (m : Mem) (n : Nat) : callF TA 60 [RI a] m n = some (RB (rm a)) := by
  refine callF_of (Fn_ofK (fn := F60) rfl (by simp [F60]) ?_)
  try simp only [r60_0, r60_1, c60, F60, rm, go_sem, Int.reduceTMod, Int.reduceTDiv, Int.reduceDiv, Int.reduceMod, Int.reduceAdd, Int.reduceSub, Int.reduceMul, Int.reduceNeg, Int.reducePow, Int.reduceEq, ↓reduceIte, Nat.reduceEqDiff, Nat.reduceAdd, Nat.reduceMul, Nat.reduceLeDiff, Nat.reduceSub, Nat.reduceLT, Int.reduceToNat, Int.reduceLT, Int.reduceLE, reduceCtorEq]
  repeat' ((first | refine FK_split (fun h_ => ?_) (fun h_ => ?_) | refine GK_split (fun h_ => ?_) (fun h_ => ?_) | refine ite_both (fun h_ => ?_) (fun h_ => ?_)) <;> (try simp only [decide_eq_true_eq, decide_eq_false_iff_not, Bool.not_true, Bool.not_false, Bool.not_eq_true', Bool.not_eq_false', Bool.not_eq_eq_eq_not, Decidable.not_not] at h_) <;> (try simp only [r60_0, r60_1, c60, F60, rm, h_, go_sem, Int.reduceTMod, Int.reduceTDiv, Int.reduceDiv, Int.reduceMod, Int.reduceAdd, Int.reduceSub, Int.reduceMul, Int.reduceNeg, Int.reducePow, Int.reduceEq, ↓reduceIte, Nat.reduceEqDiff, Nat.reduceAdd, Nat.reduceMul, Nat.reduceLeDiff, Nat.reduceSub, Nat.reduceLT, Int.reduceToNat, Int.reduceLT, Int.reduceLE, reduceCtorEq]))

structure Pt where
  x : Int
  y : Int
abbrev Pt.cs (p : Pt) : List Cell := [I p.x, I p.y]
abbrev Pt.r (p : Pt) : Reg := .agg [I p.x, I p.y]
def inP (p : Pt) : Bool := rm p.x && rm p.y
theorem cs2 (p : Pt) : p.cs.length = 2 := rfl
theorem v_PIn (x y : Int) (m : Mem) (n : Nat) : callF TA 55 [.agg [I x, I y]] m n = some (RB (inP ⟨x, y⟩)) := by
  refine callF_of (Fn_ofK (fn := F55) rfl (by simp [F55]) ?_)
  try simp only [r55_0, r55_1, c55, F55, v_fIn, inP, go_sem, Int.reduceTMod, Int.reduceTDiv, Int.reduceDiv, Int.reduceMod, Int.reduceAdd, Int.reduceSub, Int.reduceMul, Int.reduceNeg, Int.reducePow, Int.reduceEq, ↓reduceIte, Nat.reduceEqDiff, Nat.reduceAdd, Nat.reduceMul, Nat.reduceLeDiff, Nat.reduceSub, Nat.reduceLT, Int.reduceToNat, Int.reduceLT, Int.reduceLE, reduceCtorEq]
  repeat' ((first | refine FK_split (fun h_ => ?_) (fun h_ => ?_) | refine GK_split (fun h_ => ?_) (fun h_ => ?_) | refine ite_both (fun h_ => ?_) (fun h_ => ?_)) <;> (try simp only [decide_eq_true_eq, decide_eq_false_iff_not, Bool.not_true, Bool.not_false, Bool.not_eq_true', Bool.not_eq_false', Bool.not_eq_eq_eq_not, Decidable.not_not] at h_) <;> (try simp only [r55_0, r55_1, c55, F55, v_fIn, inP, h_, go_sem, Int.reduceTMod, Int.reduceTDiv, Int.reduceDiv, Int.reduceMod, Int.reduceAdd, Int.reduceSub, Int.reduceMul, Int.reduceNeg, Int.reducePow, Int.reduceEq, ↓reduceIte, Nat.reduceEqDiff, Nat.reduceAdd, Nat.reduceMul, Nat.reduceLeDiff, Nat.reduceSub, Nat.reduceLT, Int.reduceToNat, Int.reduceLT, Int.reduceLE, reduceCtorEq]))
theorem v_Below (x d : Int) (hx : -4611686018427387904 ≤ x ∧ x ≤ 4611686018427387904) (hd : 0 < d) (hd2 : d ≤ 4294967296) (m : Mem) (n : Nat) : callF TA 35 [RI x, RI d] m n = some (RI (x / d)) := by
  refine callF_of (Fn_ofK (fn := F35) rfl (by simp [F35]) ?_)
  have z : (d = 0) = False := eq_false (by omega)
  have hf := below_floor (X := x) (D := d) hd
  have e1 := Int.mul_ediv_add_emod x d
  have e2 := Int.emod_nonneg x (Int.ne_of_gt hd)
  have e3 := Int.emod_lt_of_pos x hd
  have k2 : -4611686018427387904 ≤ x / d := Int.le_ediv_of_mul_le hd (by
      have := Int.mul_le_mul_of_nonneg_left (show (1 : Int) ≤ d by omega) (show (0 : Int) ≤ 4611686018427387904 by decide)
      rw [Int.neg_mul]; omega)
  have k3 : x / d < 4611686018427387905 := Int.ediv_lt_of_lt_mul hd (by
      have := Int.mul_le_mul_of_nonneg_left (show (1 : Int) ≤ d by omega) (show (0 : Int) ≤ 4611686018427387905 by decide)
      omega)
  have hq : x.tdiv d = x / d ∨ x.tdiv d = x / d + 1 := by split at hf <;> omega
  have w1 : IntKind.i64.wrap (x.tdiv d) = x.tdiv d := wr_eq (by omega) (by omega)
  have w2 : IntKind.i64.wrap (x.tdiv d * d) = x.tdiv d * d := by
    have : x.tdiv d * d = d * (x / d) ∨ x.tdiv d * d = d * (x / d) + d := by
      rcases hq with h | h
      · left; rw [h, Int.mul_comm]
      · right; rw [h, Int.mul_comm, Int.mul_add, Int.mul_one]
    exact wr_eq (by omega) (by omega)
  have w3 : IntKind.i64.wrap (x.tdiv d - 1) = x.tdiv d - 1 := wr_eq (by omega) (by omega)
  rw [← hf]
  by_cases c : x < x.tdiv d * d
  all_goals
    try simp only [r35_0, r35_1, r35_2, r35_3, r35_4, c35, F35, z, w1, w2, w3, c, go_sem, Int.reduceTMod, Int.reduceTDiv, Int.reduceDiv, Int.reduceMod, Int.reduceAdd, Int.reduceSub, Int.reduceMul, Int.reduceNeg, Int.reducePow, Int.reduceEq, ↓reduceIte, Nat.reduceEqDiff, Nat.reduceAdd, Nat.reduceMul, Nat.reduceLeDiff, Nat.reduceSub, Nat.reduceLT, Int.reduceToNat, Int.reduceLT, Int.reduceLE, reduceCtorEq]
    repeat' ((first | refine FK_split (fun h_ => ?_) (fun h_ => ?_) | refine GK_split (fun h_ => ?_) (fun h_ => ?_) | refine ite_both (fun h_ => ?_) (fun h_ => ?_)) <;> (try simp only [decide_eq_true_eq, decide_eq_false_iff_not, Bool.not_true, Bool.not_false, Bool.not_eq_true', Bool.not_eq_false', Bool.not_eq_eq_eq_not, Decidable.not_not] at h_) <;> (try simp only [r35_0, r35_1, r35_2, r35_3, r35_4, c35, F35, z, w1, w2, w3, c, h_, go_sem, Int.reduceTMod, Int.reduceTDiv, Int.reduceDiv, Int.reduceMod, Int.reduceAdd, Int.reduceSub, Int.reduceMul, Int.reduceNeg, Int.reducePow, Int.reduceEq, ↓reduceIte, Nat.reduceEqDiff, Nat.reduceAdd, Nat.reduceMul, Nat.reduceLeDiff, Nat.reduceSub, Nat.reduceLT, Int.reduceToNat, Int.reduceLT, Int.reduceLE, reduceCtorEq]))
theorem v_Round (x d : Int) (hx : -2305843009213693952 ≤ x ∧ x ≤ 2305843009213693952) (hd : 0 < d) (hd2 : d ≤ 4294967296) (m : Mem) (n : Nat) : callF TA 45 [RI x, RI d] m n = some (RI (rnd x d)) := by
  refine callF_of (Fn_ofK (fn := F45) rfl (by simp [F45]) ?_)
  have vb := v_Below x d (by omega) hd hd2
  have e1 := Int.mul_ediv_add_emod x d
  have e2 := Int.emod_nonneg x (Int.ne_of_gt hd)
  have e3 := Int.emod_lt_of_pos x hd
  have e4 : x / d * d = d * (x / d) := Int.mul_comm _ _
  have k3 : x / d < 4611686018427387905 := Int.ediv_lt_of_lt_mul hd (by
      have := Int.mul_le_mul_of_nonneg_left (show (1 : Int) ≤ d by omega) (show (0 : Int) ≤ 4611686018427387905 by decide)
      omega)
  have k2 : -4611686018427387904 ≤ x / d := Int.le_ediv_of_mul_le hd (by
      have := Int.mul_le_mul_of_nonneg_left (show (1 : Int) ≤ d by omega) (show (0 : Int) ≤ 4611686018427387904 by decide)
      rw [Int.neg_mul]; omega)
  have w1 : IntKind.i64.wrap (x / d * d) = x / d * d := wr_eq (by omega) (by omega)
  have w2 : IntKind.i64.wrap (x - x / d * d) = x - x / d * d := wr_eq (by omega) (by omega)
  have w3 : IntKind.i64.wrap (d - (x - x / d * d)) = d - (x - x / d * d) := wr_eq (by omega) (by omega)
  have w4 : IntKind.i64.wrap (x / d + 1) = x / d + 1 := wr_eq (by omega) (by omega)
  rw [rnd_eq hd]
  by_cases c : d - (x - x / d * d) ≤ x - x / d * d
  all_goals
    try simp only [r45_0, r45_1, r45_2, r45_3, r45_4, r45_5, c45, F45, vb, w1, w2, w3, w4, c, go_sem, Int.reduceTMod, Int.reduceTDiv, Int.reduceDiv, Int.reduceMod, Int.reduceAdd, Int.reduceSub, Int.reduceMul, Int.reduceNeg, Int.reducePow, Int.reduceEq, ↓reduceIte, Nat.reduceEqDiff, Nat.reduceAdd, Nat.reduceMul, Nat.reduceLeDiff, Nat.reduceSub, Nat.reduceLT, Int.reduceToNat, Int.reduceLT, Int.reduceLE, reduceCtorEq]
    repeat' ((first | refine FK_split (fun h_ => ?_) (fun h_ => ?_) | refine GK_split (fun h_ => ?_) (fun h_ => ?_) | refine ite_both (fun h_ => ?_) (fun h_ => ?_)) <;> (try simp only [decide_eq_true_eq, decide_eq_false_iff_not, Bool.not_true, Bool.not_false, Bool.not_eq_true', Bool.not_eq_false', Bool.not_eq_eq_eq_not, Decidable.not_not] at h_) <;> (try simp only [r45_0, r45_1, r45_2, r45_3, r45_4, r45_5, c45, F45, vb, w1, w2, w3, w4, c, h_, go_sem, Int.reduceTMod, Int.reduceTDiv, Int.reduceDiv, Int.reduceMod, Int.reduceAdd, Int.reduceSub, Int.reduceMul, Int.reduceNeg, Int.reducePow, Int.reduceEq, ↓reduceIte, Nat.reduceEqDiff, Nat.reduceAdd, Nat.reduceMul, Nat.reduceLeDiff, Nat.reduceSub, Nat.reduceLT, Int.reduceToNat, Int.reduceLT, Int.reduceLE, reduceCtorEq]))

/-- Is a line too long? -/
def longB (x y : Int) : Bool := decide (536870912 < x) || (decide (x < -536870912) || (decide (536870912 < y) || decide (y < -536870912)))
theorem long_iff {x y : Int} : longB x y = false ↔ (-536870912 ≤ x ∧ x ≤ 536870912) ∧ -536870912 ≤ y ∧ y ≤ 536870912 := by
  simp only [longB, Bool.or_eq_false_iff, decide_eq_false_iff_not]; omega
theorem sq_bd {x y : Int} (h : longB x y = false) : (0 ≤ x * x ∧ x * x ≤ 288230376151711744) ∧ 0 ≤ y * y ∧ y * y ≤ 288230376151711744 := by
  rw [long_iff] at h
  have key : ∀ z : Int, -536870912 ≤ z → z ≤ 536870912 → 0 ≤ z * z ∧ z * z ≤ 288230376151711744 := by
    intro z h1 h2
    rcases Int.le_total 0 z with k | k
    · exact ⟨Int.mul_nonneg k k, by have := Int.mul_le_mul h2 h2 k (by omega); omega⟩
    · have e : z * z = (-z) * (-z) := (Int.neg_mul_neg z z).symm
      rw [e]
      exact ⟨Int.mul_nonneg (by omega) (by omega), by have := Int.mul_le_mul (show -z ≤ 536870912 by omega) (show -z ≤ 536870912 by omega) (by omega) (by omega); omega⟩
  exact ⟨key x h.1.1 h.1.2, key y h.2.1 h.2.2⟩
theorem inP_iff {x y : Int} : inP ⟨x, y⟩ = true ↔ (-2147483648 ≤ x ∧ x ≤ 2147483648) ∧ -2147483648 ≤ y ∧ y ≤ 2147483648 := by
  simp only [inP, Bool.and_eq_true, rm_iff]
theorem sub_wrap {ax ay bx b_y : Int} (ha : inP ⟨ax, ay⟩ = true) (hb : inP ⟨bx, b_y⟩ = true) : IntKind.i64.wrap (bx - ax) = bx - ax ∧ IntKind.i64.wrap (b_y - ay) = b_y - ay := by
  rw [inP_iff] at ha hb
  exact ⟨wr_eq (by omega) (by omega), wr_eq (by omega) (by omega)⟩
theorem v_lref (x y : Int) (m : Mem) (n : Nat) : callF TA 17 [.agg [I x, I y]] m n = some (.agg [I x, I y]) := by
  refine callF_of (Fn_ofK (fn := F17) rfl (by simp [F17]) ?_)
  try simp only [r17_0, r17_1, c17, F17, go_sem, Int.reduceTMod, Int.reduceTDiv, Int.reduceDiv, Int.reduceMod, Int.reduceAdd, Int.reduceSub, Int.reduceMul, Int.reduceNeg, Int.reducePow, Int.reduceEq, ↓reduceIte, Nat.reduceEqDiff, Nat.reduceAdd, Nat.reduceMul, Nat.reduceLeDiff, Nat.reduceSub, Nat.reduceLT, Int.reduceToNat, Int.reduceLT, Int.reduceLE, reduceCtorEq]
  repeat' ((first | refine FK_split (fun h_ => ?_) (fun h_ => ?_) | refine GK_split (fun h_ => ?_) (fun h_ => ?_) | refine ite_both (fun h_ => ?_) (fun h_ => ?_)) <;> (try simp only [decide_eq_true_eq, decide_eq_false_iff_not, Bool.not_true, Bool.not_false, Bool.not_eq_true', Bool.not_eq_false', Bool.not_eq_eq_eq_not, Decidable.not_not] at h_) <;> (try simp only [r17_0, r17_1, c17, F17, h_, go_sem, Int.reduceTMod, Int.reduceTDiv, Int.reduceDiv, Int.reduceMod, Int.reduceAdd, Int.reduceSub, Int.reduceMul, Int.reduceNeg, Int.reducePow, Int.reduceEq, ↓reduceIte, Nat.reduceEqDiff, Nat.reduceAdd, Nat.reduceMul, Nat.reduceLeDiff, Nat.reduceSub, Nat.reduceLT, Int.reduceToNat, Int.reduceLT, Int.reduceLE, reduceCtorEq]))

theorem v_rLength (ax ay bx b_y : Int) (ha : inP ⟨ax, ay⟩ = true) (hb : inP ⟨bx, b_y⟩ = true) (hl : longB (bx - ax) (b_y - ay) = false) (m : Mem) (n : Nat) :
    callF TA 37 [.agg [I ax, I ay], .agg [I bx, I b_y]] m n = some (RI (isq ((bx - ax) * (bx - ax) + (b_y - ay) * (b_y - ay)))) := by
  refine callF_of (Fn_ofK (fn := F37) rfl (by simp [F37]) ?_)
  obtain ⟨w1, w2⟩ := sub_wrap ha hb
  have sq := sq_bd hl
  generalize hgx : bx - ax = x at *
  generalize hgy : b_y - ay = y at *
  have w3 : IntKind.i64.wrap (x * x) = x * x := wr_eq (by omega) (by omega)
  have w4 : IntKind.i64.wrap (y * y) = y * y := wr_eq (by omega) (by omega)
  have w5 : IntKind.i64.wrap (x * x + y * y) = x * x + y * y := wr_eq (by omega) (by omega)
  have vr := v_Root (x * x + y * y) (by omega) (by omega)
  try simp only [r37_0, r37_1, r37_2, c37, F37, hgx, hgy, w1, w2, w3, w4, w5, vr, go_sem, Int.reduceTMod, Int.reduceTDiv, Int.reduceDiv, Int.reduceMod, Int.reduceAdd, Int.reduceSub, Int.reduceMul, Int.reduceNeg, Int.reducePow, Int.reduceEq, ↓reduceIte, Nat.reduceEqDiff, Nat.reduceAdd, Nat.reduceMul, Nat.reduceLeDiff, Nat.reduceSub, Nat.reduceLT, Int.reduceToNat, Int.reduceLT, Int.reduceLE, reduceCtorEq]
  repeat' ((first | refine FK_split (fun h_ => ?_) (fun h_ => ?_) | refine GK_split (fun h_ => ?_) (fun h_ => ?_) | refine ite_both (fun h_ => ?_) (fun h_ => ?_)) <;> (try simp only [decide_eq_true_eq, decide_eq_false_iff_not, Bool.not_true, Bool.not_false, Bool.not_eq_true', Bool.not_eq_false', Bool.not_eq_eq_eq_not, Decidable.not_not] at h_) <;> (try simp only [r37_0, r37_1, r37_2, c37, F37, hgx, hgy, w1, w2, w3, w4, w5, vr, h_, go_sem, Int.reduceTMod, Int.reduceTDiv, Int.reduceDiv, Int.reduceMod, Int.reduceAdd, Int.reduceSub, Int.reduceMul, Int.reduceNeg, Int.reducePow, Int.reduceEq, ↓reduceIte, Nat.reduceEqDiff, Nat.reduceAdd, Nat.reduceMul, Nat.reduceLeDiff, Nat.reduceSub, Nat.reduceLT, Int.reduceToNat, Int.reduceLT, Int.reduceLE, reduceCtorEq]))
theorem v_Length (ax ay bx b_y : Int) (m : Mem) (n : Nat) : callF TA 44 [.agg [I ax, I ay], .agg [I bx, I b_y]] m n = some (if (inP ⟨ax, ay⟩ && inP ⟨bx, b_y⟩) = true then
      (if longB (bx - ax) (b_y - ay) = true then .tup [RI 0, RI 10] else .tup [RI (isq ((bx - ax) * (bx - ax) + (b_y - ay) * (b_y - ay))), RI 0]) else .tup [RI 0, RI 30]) := by
  refine callF_of (Fn_ofK (fn := F44) rfl (by simp [F44]) ?_)
  cases ha : inP ⟨ax, ay⟩
  · rw [if_neg (by simp)]
    try simp only [r44_0, r44_1, r44_2, r44_3, r44_4, r44_5, r44_6, c44, F44, v_PIn, ha, go_sem, Int.reduceTMod, Int.reduceTDiv, Int.reduceDiv, Int.reduceMod, Int.reduceAdd, Int.reduceSub, Int.reduceMul, Int.reduceNeg, Int.reducePow, Int.reduceEq, ↓reduceIte, Nat.reduceEqDiff, Nat.reduceAdd, Nat.reduceMul, Nat.reduceLeDiff, Nat.reduceSub, Nat.reduceLT, Int.reduceToNat, Int.reduceLT, Int.reduceLE, reduceCtorEq]
    repeat' ((first | refine FK_split (fun h_ => ?_) (fun h_ => ?_) | refine GK_split (fun h_ => ?_) (fun h_ => ?_) | refine ite_both (fun h_ => ?_) (fun h_ => ?_)) <;> (try simp only [decide_eq_true_eq, decide_eq_false_iff_not, Bool.not_true, Bool.not_false, Bool.not_eq_true', Bool.not_eq_false', Bool.not_eq_eq_eq_not, Decidable.not_not] at h_) <;> (try simp only [r44_0, r44_1, r44_2, r44_3, r44_4, r44_5, r44_6, c44, F44, v_PIn, ha, h_, go_sem, Int.reduceTMod, Int.reduceTDiv, Int.reduceDiv, Int.reduceMod, Int.reduceAdd, Int.reduceSub, Int.reduceMul, Int.reduceNeg, Int.reducePow, Int.reduceEq, ↓reduceIte, Nat.reduceEqDiff, Nat.reduceAdd, Nat.reduceMul, Nat.reduceLeDiff, Nat.reduceSub, Nat.reduceLT, Int.reduceToNat, Int.reduceLT, Int.reduceLE, reduceCtorEq]))
  · cases hb : inP ⟨bx, b_y⟩
    · rw [if_neg (by simp)]
      try simp only [r44_0, r44_1, r44_2, r44_3, r44_4, r44_5, r44_6, c44, F44, v_PIn, ha, hb, go_sem, Int.reduceTMod, Int.reduceTDiv, Int.reduceDiv, Int.reduceMod, Int.reduceAdd, Int.reduceSub, Int.reduceMul, Int.reduceNeg, Int.reducePow, Int.reduceEq, ↓reduceIte, Nat.reduceEqDiff, Nat.reduceAdd, Nat.reduceMul, Nat.reduceLeDiff, Nat.reduceSub, Nat.reduceLT, Int.reduceToNat, Int.reduceLT, Int.reduceLE, reduceCtorEq]
      repeat' ((first | refine FK_split (fun h_ => ?_) (fun h_ => ?_) | refine GK_split (fun h_ => ?_) (fun h_ => ?_) | refine ite_both (fun h_ => ?_) (fun h_ => ?_)) <;> (try simp only [decide_eq_true_eq, decide_eq_false_iff_not, Bool.not_true, Bool.not_false, Bool.not_eq_true', Bool.not_eq_false', Bool.not_eq_eq_eq_not, Decidable.not_not] at h_) <;> (try simp only [r44_0, r44_1, r44_2, r44_3, r44_4, r44_5, r44_6, c44, F44, v_PIn, ha, hb, h_, go_sem, Int.reduceTMod, Int.reduceTDiv, Int.reduceDiv, Int.reduceMod, Int.reduceAdd, Int.reduceSub, Int.reduceMul, Int.reduceNeg, Int.reducePow, Int.reduceEq, ↓reduceIte, Nat.reduceEqDiff, Nat.reduceAdd, Nat.reduceMul, Nat.reduceLeDiff, Nat.reduceSub, Nat.reduceLT, Int.reduceToNat, Int.reduceLT, Int.reduceLE, reduceCtorEq]))
    · rw [if_pos (by simp)]
      obtain ⟨w1, w2⟩ := sub_wrap ha hb
      cases hl : longB (bx - ax) (b_y - ay)
      · rw [if_neg (by simp)]
        have sq := sq_bd hl
        rw [long_iff] at hl
        generalize hgx : bx - ax = x at *
        generalize hgy : b_y - ay = y at *
        have w3 : IntKind.i64.wrap (x * x) = x * x := wr_eq (by omega) (by omega)
        have w4 : IntKind.i64.wrap (y * y) = y * y := wr_eq (by omega) (by omega)
        have w5 : IntKind.i64.wrap (x * x + y * y) = x * x + y * y := wr_eq (by omega) (by omega)
        have vr := v_Sqrt (x * x + y * y) (by omega) (by omega)
        have m1 : (536870912 < mxI x y) = False := eq_false (by unfold mxI; split <;> omega)
        have m2 : (mnI x y < -536870912) = False := eq_false (by unfold mnI; split <;> omega)
        try simp only [r44_0, r44_1, r44_2, r44_3, r44_4, r44_5, r44_6, c44, F44, v_PIn, ha, hb, hgx, hgy, w1, w2, w3, w4, w5, vr, maxI_two, minI_two, m1, m2, go_sem, Int.reduceTMod, Int.reduceTDiv, Int.reduceDiv, Int.reduceMod, Int.reduceAdd, Int.reduceSub, Int.reduceMul, Int.reduceNeg, Int.reducePow, Int.reduceEq, ↓reduceIte, Nat.reduceEqDiff, Nat.reduceAdd, Nat.reduceMul, Nat.reduceLeDiff, Nat.reduceSub, Nat.reduceLT, Int.reduceToNat, Int.reduceLT, Int.reduceLE, reduceCtorEq]
        repeat' ((first | refine FK_split (fun h_ => ?_) (fun h_ => ?_) | refine GK_split (fun h_ => ?_) (fun h_ => ?_) | refine ite_both (fun h_ => ?_) (fun h_ => ?_)) <;> (try simp only [decide_eq_true_eq, decide_eq_false_iff_not, Bool.not_true, Bool.not_false, Bool.not_eq_true', Bool.not_eq_false', Bool.not_eq_eq_eq_not, Decidable.not_not] at h_) <;> (try simp only [r44_0, r44_1, r44_2, r44_3, r44_4, r44_5, r44_6, c44, F44, v_PIn, ha, hb, hgx, hgy, w1, w2, w3, w4, w5, vr, maxI_two, minI_two, m1, m2, h_, go_sem, Int.reduceTMod, Int.reduceTDiv, Int.reduceDiv, Int.reduceMod, Int.reduceAdd, Int.reduceSub, Int.reduceMul, Int.reduceNeg, Int.reducePow, Int.reduceEq, ↓reduceIte, Nat.reduceEqDiff, Nat.reduceAdd, Nat.reduceMul, Nat.reduceLeDiff, Nat.reduceSub, Nat.reduceLT, Int.reduceToNat, Int.reduceLT, Int.reduceLE, reduceCtorEq]))
      · rw [if_pos rfl]
        have hl' : ¬ ((-536870912 ≤ bx - ax ∧ bx - ax ≤ 536870912) ∧ -536870912 ≤ b_y - ay ∧ b_y - ay ≤ 536870912) := fun h => by rw [long_iff.2 h] at hl; cases hl
        generalize hgx : bx - ax = x at *
        generalize hgy : b_y - ay = y at *
        by_cases g : 536870912 < mxI x y
        · skip
          try simp only [r44_0, r44_1, r44_2, r44_3, r44_4, r44_5, r44_6, c44, F44, v_PIn, ha, hb, hgx, hgy, w1, w2, maxI_two, minI_two, g, go_sem, Int.reduceTMod, Int.reduceTDiv, Int.reduceDiv, Int.reduceMod, Int.reduceAdd, Int.reduceSub, Int.reduceMul, Int.reduceNeg, Int.reducePow, Int.reduceEq, ↓reduceIte, Nat.reduceEqDiff, Nat.reduceAdd, Nat.reduceMul, Nat.reduceLeDiff, Nat.reduceSub, Nat.reduceLT, Int.reduceToNat, Int.reduceLT, Int.reduceLE, reduceCtorEq]
          repeat' ((first | refine FK_split (fun h_ => ?_) (fun h_ => ?_) | refine GK_split (fun h_ => ?_) (fun h_ => ?_) | refine ite_both (fun h_ => ?_) (fun h_ => ?_)) <;> (try simp only [decide_eq_true_eq, decide_eq_false_iff_not, Bool.not_true, Bool.not_false, Bool.not_eq_true', Bool.not_eq_false', Bool.not_eq_eq_eq_not, Decidable.not_not] at h_) <;> (try simp only [r44_0, r44_1, r44_2, r44_3, r44_4, r44_5, r44_6, c44, F44, v_PIn, ha, hb, hgx, hgy, w1, w2, maxI_two, minI_two, g, h_, go_sem, Int.reduceTMod, Int.reduceTDiv, Int.reduceDiv, Int.reduceMod, Int.reduceAdd, Int.reduceSub, Int.reduceMul, Int.reduceNeg, Int.reducePow, Int.reduceEq, ↓reduceIte, Nat.reduceEqDiff, Nat.reduceAdd, Nat.reduceMul, Nat.reduceLeDiff, Nat.reduceSub, Nat.reduceLT, Int.reduceToNat, Int.reduceLT, Int.reduceLE, reduceCtorEq]))
        · have m2 : (mnI x y < -536870912) = True := eq_true (by unfold mxI at g; unfold mnI; split at g <;> split <;> omega)
          try simp only [r44_0, r44_1, r44_2, r44_3, r44_4, r44_5, r44_6, c44, F44, v_PIn, ha, hb, hgx, hgy, w1, w2, maxI_two, minI_two, g, m2, go_sem, Int.reduceTMod, Int.reduceTDiv, Int.reduceDiv, Int.reduceMod, Int.reduceAdd, Int.reduceSub, Int.reduceMul, Int.reduceNeg, Int.reducePow, Int.reduceEq, ↓reduceIte, Nat.reduceEqDiff, Nat.reduceAdd, Nat.reduceMul, Nat.reduceLeDiff, Nat.reduceSub, Nat.reduceLT, Int.reduceToNat, Int.reduceLT, Int.reduceLE, reduceCtorEq]
          repeat' ((first | refine FK_split (fun h_ => ?_) (fun h_ => ?_) | refine GK_split (fun h_ => ?_) (fun h_ => ?_) | refine ite_both (fun h_ => ?_) (fun h_ => ?_)) <;> (try simp only [decide_eq_true_eq, decide_eq_false_iff_not, Bool.not_true, Bool.not_false, Bool.not_eq_true', Bool.not_eq_false', Bool.not_eq_eq_eq_not, Decidable.not_not] at h_) <;> (try simp only [r44_0, r44_1, r44_2, r44_3, r44_4, r44_5, r44_6, c44, F44, v_PIn, ha, hb, hgx, hgy, w1, w2, maxI_two, minI_two, g, m2, h_, go_sem, Int.reduceTMod, Int.reduceTDiv, Int.reduceDiv, Int.reduceMod, Int.reduceAdd, Int.reduceSub, Int.reduceMul, Int.reduceNeg, Int.reducePow, Int.reduceEq, ↓reduceIte, Nat.reduceEqDiff, Nat.reduceAdd, Nat.reduceMul, Nat.reduceLeDiff, Nat.reduceSub, Nat.reduceLT, Int.reduceToNat, Int.reduceLT, Int.reduceLE, reduceCtorEq]))
end Go.Proofs.Ytffhhgcgnillaaa.Sy
