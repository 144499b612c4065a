/- Package math/bits walked: how many digits a number has. Conditions: those that each theorem names. -/
import Derived.Test.YtffhhgcgnillaaaSyTA
import Derived.Test.YtffhhgcgnillaaaWdN
namespace Go.Proofs.Ytffhhgcgnillaaa.Sy
open Go Go.Proofs Go.RowKit
set_option linter.unusedSimpArgs false
set_option linter.unusedVariables false
set_option maxRecDepth 20000
attribute [local go_sem] XK_seq XK_block XK_skip XK_exit XK_ret XK_cond XK_reg XK_dreg XK_ureg KN_seq KN_blk KN_lp KN_chk KN_chku KN_top KN_fin KX_seq KX_lp KX_blk KX_chk KX_top KR_seq KR_blk KR_lp KR_chk KR_top KR_fin FK_true FK_false RK_nil RK_mv RK_pick RK_alloc RK_box RK_build RK_bslice RK_load1 RK_loadA RK_store RK_nilchk RK_bin RK_beq RK_eqv RK_eqnil RK_un RK_conv RK_mkfn RK_mkslice RK_slS RK_slA RK_fadr RK_fld RK_iadrA RK_iadrS RK_idxA RK_istr RK_ext RK_lenC RK_cap RK_app RK_appz RK_pre RK_cpy RK_mn RK_mx RK_len RK_carry RK_clr carryR um0 um1 ThenK_some RK_guard GK_tt GK_ff GK_tf GK_ft GK_none QK_some RK_callQ RK_callZ RK_callT TK_some VK_clo RK_callV
  evalOp evO evOs upd_at unfrz_at putE_some putE_none boolOf_b boolOf_tup Option.map_some evRes pack_one pack_two pack_three pack_none List.getD_cons_zero List.getD_cons_succ getD_nil
  Option.some.injEq exists_eq_left' Reg.cs? fillC setL List.set_cons_zero List.set_cons_succ List.length_cons List.length_nil rd_upd rd_updn rdB wr List.drop_zero List.drop_succ_cons List.take_succ_cons List.take_zero List.getElem?_cons_zero List.getElem?_cons_succ
  ix Int.toNat_zero lenO_sl lenO_nil nadd na_eq na_eq' na_lt na_ee na_ll na_ne na_ne' na_tt
attribute [local go_sem] Reg.flat_one Reg.flat_agg Reg.flat_tup flats_nil flats_cons Cell.flat_sc Cell.flat_ptr List.all_cons List.all_nil disOk safeOk safeR decide_eq_true_eq decide_eq_false_iff_not
  List.map_cons List.map_nil List.cons_append List.nil_append List.append_nil evalOp.capsOf Bool.false_bne Bool.bne_false Bool.true_bne Bool.bne_true bne_self_eq_false beq_self_eq_true Bool.not_not Bool.false_and Bool.and_false Bool.true_or Bool.or_true beq_iff_eq eqCells
  Bool.true_beq Bool.false_beq Bool.not_eq_true' Bool.not_eq_eq_eq_not Bool.not_eq_false' and_false false_and frz_at idOf noId Option.isSome_some Bool.and_eq_true
attribute [local go_sem] wr_eq bV_add bV_sub bV_mul bV_eql bV_neq bV_lss bV_leq bV_gtr bV_geq bV_quo bV_rem bV_shr bV_shl uV_not uV_neg wrapU bits_and bits_or bits_xor IntKind.bits Nat.min_eq_left Nat.min_eq_right Nat.min_self
attribute [local go_sem] bne_iff_ne Int.cast_ofNat_Int Nat.zero_add Nat.add_zero and_self and_true true_and ne_eq not_false_eq_true not_true_eq_false decide_true decide_false Bool.false_eq_true Bool.not_true Bool.not_false Bool.true_and Bool.and_true Bool.or_false Bool.false_or Bool.and_self

/-- The number of digits, told by its bounds. -/
def Pl (x : Int) (r : Nat) : Prop := x < 2 ^ r ∧ 2 ^ r ≤ 2 * x
theorem Pl.shift {x : Int} {r c : Nat} (h : Pl (x / 2 ^ c) r) : Pl x (r + c) := by
  obtain ⟨h1, h2⟩ := h
  have hc : (0 : Int) < 2 ^ c := Int.pow_pos (by decide)
  unfold Pl
  rw [Int.pow_add]
  obtain ⟨C, eC⟩ : ∃ C : Int, C = 2 ^ c := ⟨_, rfl⟩
  obtain ⟨R, eR⟩ : ∃ R : Int, R = 2 ^ r := ⟨_, rfl⟩
  rw [← eC] at h1 h2 hc ⊢
  rw [← eR] at h1 h2 ⊢
  have d1 := Int.mul_ediv_add_emod x C
  have d2 := Int.emod_nonneg x (show C ≠ 0 by omega)
  have d3 := Int.emod_lt_of_pos x hc
  have m1 : C * (x / C) ≤ C * (R - 1) := Int.mul_le_mul_of_nonneg_left (by omega) (by omega)
  rw [Int.mul_sub, Int.mul_one] at m1
  have m2 : C * R ≤ C * (2 * (x / C)) := Int.mul_le_mul_of_nonneg_left (by omega) (by omega)
  rw [Int.mul_left_comm] at m2
  rw [Int.mul_comm R C]
  omega
def tabOk (i : Nat) : Bool := match bytesA[i]? with
  | some b => decide (b ≤ 8) && (decide (i = 0) || (decide (i < 2 ^ b) && decide (2 ^ b ≤ 2 * i)))
  | none => false
theorem tab_all : ∀ i : Fin 256, tabOk i.val = true := by decide +kernel
theorem tab_len {i : Int} (h0 : 0 < i) (h1 : i < 256) : ∃ r : Nat, bytesA[i.toNat]? = some r ∧ r ≤ 8 ∧ Pl i r := by
  obtain ⟨n, rfl⟩ := Int.eq_ofNat_of_zero_le (show 0 ≤ i by omega)
  have h : tabOk n = true := tab_all ⟨n, by omega⟩
  unfold tabOk at h
  split at h
  · rename_i b hb
    simp only [Bool.and_eq_true, Bool.or_eq_true, decide_eq_true_eq] at h
    refine ⟨b, by simpa using hb, h.1, ?_⟩
    obtain ⟨a1, a2⟩ := h.2.resolve_left (by omega)
    constructor
    · exact_mod_cast a1
    · exact_mod_cast a2
  · cases h
theorem u8w {z : Int} (h0 : 0 ≤ z) (h1 : z < 256) : IntKind.u8.wrap z = z := by
  simp [IntKind.wrap, IntKind.bits, IntKind.signed]
  omega
theorem v_Len64 {x : Int} (h0 : 0 < x) (h1 : x < 18446744073709551616) : ∃ r : Nat, r ≤ 64 ∧ Pl x r ∧ callF TA 63 [RU x] (fun _ => none) 0 = some (RI r) := by
  -- the last part: what is below 256
  have last : ∀ (y : Int) (c : Nat) (C : Int), C = c → y = x / 2 ^ c → 0 < y → y < 256 → c ≤ 56 → ∃ r : Nat, c + r ≤ 64 ∧ Pl x (r + c) ∧ IntKind.u8.wrap y = y ∧ (0 ≤ y) ∧ bytesA[y.toNat]? = some r ∧ IntKind.i64.wrap (r : Int) = r ∧ IntKind.i64.wrap (C + r) = ((r + c : Nat) : Int) := by
    intro y c C hC e y0 y1 hc
    obtain ⟨r, e1, e2, e3⟩ := tab_len y0 y1
    refine ⟨r, by omega, ?_, u8w (by omega) y1, by omega, e1, ?_, ?_⟩
    · rw [e] at e3
      exact Pl.shift e3
    · rw [IntKind.wrap_i64]; omega
    · rw [IntKind.wrap_i64]; omega
  by_cases c1 : 4294967296 ≤ x
  · by_cases c2 : 65536 ≤ x / 4294967296
    · by_cases c3 : 256 ≤ x / 4294967296 / 65536
      · obtain ⟨r, q1, q2, q3, q4, q5, q6, q7⟩ := last (x / 4294967296 / 65536 / 256) 56 56 rfl (by show _ = x / 72057594037927936; omega) (by omega) (by omega) (by decide)
        refine ⟨r + 56, by omega, q2, callF_of (Fn_ofK (fn := F63) rfl (by simp [F63]) ?_)⟩
        try simp only [r63_0, r63_1, r63_2, r63_3, r63_4, r63_5, r63_6, r63_7, r63_8, r63_9, r63_10, c63, F63, c1, c2, c3, q3, q4, q5, q6, q7, go_sem, Int.reduceTMod, Int.reduceTDiv, Int.reduceDiv, Int.reduceMod, Int.reduceAdd, Int.reduceSub, Int.reduceMul, Int.reduceNeg, Int.reducePow, Int.reduceEq, ↓reduceIte, Nat.reduceEqDiff, Nat.reduceAdd, Nat.reduceMul, Nat.reduceLeDiff, Nat.reduceSub, Nat.reduceLT, Int.reduceToNat, Int.reduceLT, Int.reduceLE, reduceCtorEq]
        repeat' ((first | refine FK_split (fun h_ => ?_) (fun h_ => ?_) | refine GK_split (fun h_ => ?_) (fun h_ => ?_) | refine ite_both (fun h_ => ?_) (fun h_ => ?_)) <;> (try simp only [decide_eq_true_eq, decide_eq_false_iff_not, Bool.not_true, Bool.not_false, Bool.not_eq_true', Bool.not_eq_false', Bool.not_eq_eq_eq_not, Decidable.not_not] at h_) <;> (try simp only [r63_0, r63_1, r63_2, r63_3, r63_4, r63_5, r63_6, r63_7, r63_8, r63_9, r63_10, c63, F63, c1, c2, c3, q3, q4, q5, q6, q7, h_, go_sem, Int.reduceTMod, Int.reduceTDiv, Int.reduceDiv, Int.reduceMod, Int.reduceAdd, Int.reduceSub, Int.reduceMul, Int.reduceNeg, Int.reducePow, Int.reduceEq, ↓reduceIte, Nat.reduceEqDiff, Nat.reduceAdd, Nat.reduceMul, Nat.reduceLeDiff, Nat.reduceSub, Nat.reduceLT, Int.reduceToNat, Int.reduceLT, Int.reduceLE, reduceCtorEq]))
      · obtain ⟨r, q1, q2, q3, q4, q5, q6, q7⟩ := last (x / 4294967296 / 65536) 48 48 rfl (by show _ = x / 281474976710656; omega) (by omega) (by omega) (by decide)
        refine ⟨r + 48, by omega, q2, callF_of (Fn_ofK (fn := F63) rfl (by simp [F63]) ?_)⟩
        try simp only [r63_0, r63_1, r63_2, r63_3, r63_4, r63_5, r63_6, r63_7, r63_8, r63_9, r63_10, c63, F63, c1, c2, c3, q3, q4, q5, q6, q7, go_sem, Int.reduceTMod, Int.reduceTDiv, Int.reduceDiv, Int.reduceMod, Int.reduceAdd, Int.reduceSub, Int.reduceMul, Int.reduceNeg, Int.reducePow, Int.reduceEq, ↓reduceIte, Nat.reduceEqDiff, Nat.reduceAdd, Nat.reduceMul, Nat.reduceLeDiff, Nat.reduceSub, Nat.reduceLT, Int.reduceToNat, Int.reduceLT, Int.reduceLE, reduceCtorEq]
        repeat' ((first | refine FK_split (fun h_ => ?_) (fun h_ => ?_) | refine GK_split (fun h_ => ?_) (fun h_ => ?_) | refine ite_both (fun h_ => ?_) (fun h_ => ?_)) <;> (try simp only [decide_eq_true_eq, decide_eq_false_iff_not, Bool.not_true, Bool.not_false, Bool.not_eq_true', Bool.not_eq_false', Bool.not_eq_eq_eq_not, Decidable.not_not] at h_) <;> (try simp only [r63_0, r63_1, r63_2, r63_3, r63_4, r63_5, r63_6, r63_7, r63_8, r63_9, r63_10, c63, F63, c1, c2, c3, q3, q4, q5, q6, q7, h_, go_sem, Int.reduceTMod, Int.reduceTDiv, Int.reduceDiv, Int.reduceMod, Int.reduceAdd, Int.reduceSub, Int.reduceMul, Int.reduceNeg, Int.reducePow, Int.reduceEq, ↓reduceIte, Nat.reduceEqDiff, Nat.reduceAdd, Nat.reduceMul, Nat.reduceLeDiff, Nat.reduceSub, Nat.reduceLT, Int.reduceToNat, Int.reduceLT, Int.reduceLE, reduceCtorEq]))
    · by_cases c3 : 256 ≤ x / 4294967296
      · obtain ⟨r, q1, q2, q3, q4, q5, q6, q7⟩ := last (x / 4294967296 / 256) 40 40 rfl (by show _ = x / 1099511627776; omega) (by omega) (by omega) (by decide)
        refine ⟨r + 40, by omega, q2, callF_of (Fn_ofK (fn := F63) rfl (by simp [F63]) ?_)⟩
        try simp only [r63_0, r63_1, r63_2, r63_3, r63_4, r63_5, r63_6, r63_7, r63_8, r63_9, r63_10, c63, F63, c1, c2, c3, q3, q4, q5, q6, q7, go_sem, Int.reduceTMod, Int.reduceTDiv, Int.reduceDiv, Int.reduceMod, Int.reduceAdd, Int.reduceSub, Int.reduceMul, Int.reduceNeg, Int.reducePow, Int.reduceEq, ↓reduceIte, Nat.reduceEqDiff, Nat.reduceAdd, Nat.reduceMul, Nat.reduceLeDiff, Nat.reduceSub, Nat.reduceLT, Int.reduceToNat, Int.reduceLT, Int.reduceLE, reduceCtorEq]
        repeat' ((first | refine FK_split (fun h_ => ?_) (fun h_ => ?_) | refine GK_split (fun h_ => ?_) (fun h_ => ?_) | refine ite_both (fun h_ => ?_) (fun h_ => ?_)) <;> (try simp only [decide_eq_true_eq, decide_eq_false_iff_not, Bool.not_true, Bool.not_false, Bool.not_eq_true', Bool.not_eq_false', Bool.not_eq_eq_eq_not, Decidable.not_not] at h_) <;> (try simp only [r63_0, r63_1, r63_2, r63_3, r63_4, r63_5, r63_6, r63_7, r63_8, r63_9, r63_10, c63, F63, c1, c2, c3, q3, q4, q5, q6, q7, h_, go_sem, Int.reduceTMod, Int.reduceTDiv, Int.reduceDiv, Int.reduceMod, Int.reduceAdd, Int.reduceSub, Int.reduceMul, Int.reduceNeg, Int.reducePow, Int.reduceEq, ↓reduceIte, Nat.reduceEqDiff, Nat.reduceAdd, Nat.reduceMul, Nat.reduceLeDiff, Nat.reduceSub, Nat.reduceLT, Int.reduceToNat, Int.reduceLT, Int.reduceLE, reduceCtorEq]))
      · obtain ⟨r, q1, q2, q3, q4, q5, q6, q7⟩ := last (x / 4294967296) 32 32 rfl rfl (by omega) (by omega) (by decide)
        refine ⟨r + 32, by omega, q2, callF_of (Fn_ofK (fn := F63) rfl (by simp [F63]) ?_)⟩
        try simp only [r63_0, r63_1, r63_2, r63_3, r63_4, r63_5, r63_6, r63_7, r63_8, r63_9, r63_10, c63, F63, c1, c2, c3, q3, q4, q5, q6, q7, go_sem, Int.reduceTMod, Int.reduceTDiv, Int.reduceDiv, Int.reduceMod, Int.reduceAdd, Int.reduceSub, Int.reduceMul, Int.reduceNeg, Int.reducePow, Int.reduceEq, ↓reduceIte, Nat.reduceEqDiff, Nat.reduceAdd, Nat.reduceMul, Nat.reduceLeDiff, Nat.reduceSub, Nat.reduceLT, Int.reduceToNat, Int.reduceLT, Int.reduceLE, reduceCtorEq]
        repeat' ((first | refine FK_split (fun h_ => ?_) (fun h_ => ?_) | refine GK_split (fun h_ => ?_) (fun h_ => ?_) | refine ite_both (fun h_ => ?_) (fun h_ => ?_)) <;> (try simp only [decide_eq_true_eq, decide_eq_false_iff_not, Bool.not_true, Bool.not_false, Bool.not_eq_true', Bool.not_eq_false', Bool.not_eq_eq_eq_not, Decidable.not_not] at h_) <;> (try simp only [r63_0, r63_1, r63_2, r63_3, r63_4, r63_5, r63_6, r63_7, r63_8, r63_9, r63_10, c63, F63, c1, c2, c3, q3, q4, q5, q6, q7, h_, go_sem, Int.reduceTMod, Int.reduceTDiv, Int.reduceDiv, Int.reduceMod, Int.reduceAdd, Int.reduceSub, Int.reduceMul, Int.reduceNeg, Int.reducePow, Int.reduceEq, ↓reduceIte, Nat.reduceEqDiff, Nat.reduceAdd, Nat.reduceMul, Nat.reduceLeDiff, Nat.reduceSub, Nat.reduceLT, Int.reduceToNat, Int.reduceLT, Int.reduceLE, reduceCtorEq]))
  · by_cases c2 : 65536 ≤ x
    · by_cases c3 : 256 ≤ x / 65536
      · obtain ⟨r, q1, q2, q3, q4, q5, q6, q7⟩ := last (x / 65536 / 256) 24 24 rfl (by show _ = x / 16777216; omega) (by omega) (by omega) (by decide)
        refine ⟨r + 24, by omega, q2, callF_of (Fn_ofK (fn := F63) rfl (by simp [F63]) ?_)⟩
        try simp only [r63_0, r63_1, r63_2, r63_3, r63_4, r63_5, r63_6, r63_7, r63_8, r63_9, r63_10, c63, F63, c1, c2, c3, q3, q4, q5, q6, q7, go_sem, Int.reduceTMod, Int.reduceTDiv, Int.reduceDiv, Int.reduceMod, Int.reduceAdd, Int.reduceSub, Int.reduceMul, Int.reduceNeg, Int.reducePow, Int.reduceEq, ↓reduceIte, Nat.reduceEqDiff, Nat.reduceAdd, Nat.reduceMul, Nat.reduceLeDiff, Nat.reduceSub, Nat.reduceLT, Int.reduceToNat, Int.reduceLT, Int.reduceLE, reduceCtorEq]
        repeat' ((first | refine FK_split (fun h_ => ?_) (fun h_ => ?_) | refine GK_split (fun h_ => ?_) (fun h_ => ?_) | refine ite_both (fun h_ => ?_) (fun h_ => ?_)) <;> (try simp only [decide_eq_true_eq, decide_eq_false_iff_not, Bool.not_true, Bool.not_false, Bool.not_eq_true', Bool.not_eq_false', Bool.not_eq_eq_eq_not, Decidable.not_not] at h_) <;> (try simp only [r63_0, r63_1, r63_2, r63_3, r63_4, r63_5, r63_6, r63_7, r63_8, r63_9, r63_10, c63, F63, c1, c2, c3, q3, q4, q5, q6, q7, h_, go_sem, Int.reduceTMod, Int.reduceTDiv, Int.reduceDiv, Int.reduceMod, Int.reduceAdd, Int.reduceSub, Int.reduceMul, Int.reduceNeg, Int.reducePow, Int.reduceEq, ↓reduceIte, Nat.reduceEqDiff, Nat.reduceAdd, Nat.reduceMul, Nat.reduceLeDiff, Nat.reduceSub, Nat.reduceLT, Int.reduceToNat, Int.reduceLT, Int.reduceLE, reduceCtorEq]))
      · obtain ⟨r, q1, q2, q3, q4, q5, q6, q7⟩ := last (x / 65536) 16 16 rfl rfl (by omega) (by omega) (by decide)
        refine ⟨r + 16, by omega, q2, callF_of (Fn_ofK (fn := F63) rfl (by simp [F63]) ?_)⟩
        try simp only [r63_0, r63_1, r63_2, r63_3, r63_4, r63_5, r63_6, r63_7, r63_8, r63_9, r63_10, c63, F63, c1, c2, c3, q3, q4, q5, q6, q7, go_sem, Int.reduceTMod, Int.reduceTDiv, Int.reduceDiv, Int.reduceMod, Int.reduceAdd, Int.reduceSub, Int.reduceMul, Int.reduceNeg, Int.reducePow, Int.reduceEq, ↓reduceIte, Nat.reduceEqDiff, Nat.reduceAdd, Nat.reduceMul, Nat.reduceLeDiff, Nat.reduceSub, Nat.reduceLT, Int.reduceToNat, Int.reduceLT, Int.reduceLE, reduceCtorEq]
        repeat' ((first | refine FK_split (fun h_ => ?_) (fun h_ => ?_) | refine GK_split (fun h_ => ?_) (fun h_ => ?_) | refine ite_both (fun h_ => ?_) (fun h_ => ?_)) <;> (try simp only [decide_eq_true_eq, decide_eq_false_iff_not, Bool.not_true, Bool.not_false, Bool.not_eq_true', Bool.not_eq_false', Bool.not_eq_eq_eq_not, Decidable.not_not] at h_) <;> (try simp only [r63_0, r63_1, r63_2, r63_3, r63_4, r63_5, r63_6, r63_7, r63_8, r63_9, r63_10, c63, F63, c1, c2, c3, q3, q4, q5, q6, q7, h_, go_sem, Int.reduceTMod, Int.reduceTDiv, Int.reduceDiv, Int.reduceMod, Int.reduceAdd, Int.reduceSub, Int.reduceMul, Int.reduceNeg, Int.reducePow, Int.reduceEq, ↓reduceIte, Nat.reduceEqDiff, Nat.reduceAdd, Nat.reduceMul, Nat.reduceLeDiff, Nat.reduceSub, Nat.reduceLT, Int.reduceToNat, Int.reduceLT, Int.reduceLE, reduceCtorEq]))
    · by_cases c3 : 256 ≤ x
      · obtain ⟨r, q1, q2, q3, q4, q5, q6, q7⟩ := last (x / 256) 8 8 rfl rfl (by omega) (by omega) (by decide)
        refine ⟨r + 8, by omega, q2, callF_of (Fn_ofK (fn := F63) rfl (by simp [F63]) ?_)⟩
        try simp only [r63_0, r63_1, r63_2, r63_3, r63_4, r63_5, r63_6, r63_7, r63_8, r63_9, r63_10, c63, F63, c1, c2, c3, q3, q4, q5, q6, q7, go_sem, Int.reduceTMod, Int.reduceTDiv, Int.reduceDiv, Int.reduceMod, Int.reduceAdd, Int.reduceSub, Int.reduceMul, Int.reduceNeg, Int.reducePow, Int.reduceEq, ↓reduceIte, Nat.reduceEqDiff, Nat.reduceAdd, Nat.reduceMul, Nat.reduceLeDiff, Nat.reduceSub, Nat.reduceLT, Int.reduceToNat, Int.reduceLT, Int.reduceLE, reduceCtorEq]
        repeat' ((first | refine FK_split (fun h_ => ?_) (fun h_ => ?_) | refine GK_split (fun h_ => ?_) (fun h_ => ?_) | refine ite_both (fun h_ => ?_) (fun h_ => ?_)) <;> (try simp only [decide_eq_true_eq, decide_eq_false_iff_not, Bool.not_true, Bool.not_false, Bool.not_eq_true', Bool.not_eq_false', Bool.not_eq_eq_eq_not, Decidable.not_not] at h_) <;> (try simp only [r63_0, r63_1, r63_2, r63_3, r63_4, r63_5, r63_6, r63_7, r63_8, r63_9, r63_10, c63, F63, c1, c2, c3, q3, q4, q5, q6, q7, h_, go_sem, Int.reduceTMod, Int.reduceTDiv, Int.reduceDiv, Int.reduceMod, Int.reduceAdd, Int.reduceSub, Int.reduceMul, Int.reduceNeg, Int.reducePow, Int.reduceEq, ↓reduceIte, Nat.reduceEqDiff, Nat.reduceAdd, Nat.reduceMul, Nat.reduceLeDiff, Nat.reduceSub, Nat.reduceLT, Int.reduceToNat, Int.reduceLT, Int.reduceLE, reduceCtorEq]))
      · obtain ⟨r, q1, q2, q3, q4, q5, q6, q7⟩ := last x 0 0 rfl (by simp) (by omega) (by omega) (by decide)
        refine ⟨r + 0, by omega, q2, callF_of (Fn_ofK (fn := F63) rfl (by simp [F63]) ?_)⟩
        try simp only [r63_0, r63_1, r63_2, r63_3, r63_4, r63_5, r63_6, r63_7, r63_8, r63_9, r63_10, c63, F63, c1, c2, c3, q3, q4, q5, q6, q7, go_sem, Int.reduceTMod, Int.reduceTDiv, Int.reduceDiv, Int.reduceMod, Int.reduceAdd, Int.reduceSub, Int.reduceMul, Int.reduceNeg, Int.reducePow, Int.reduceEq, ↓reduceIte, Nat.reduceEqDiff, Nat.reduceAdd, Nat.reduceMul, Nat.reduceLeDiff, Nat.reduceSub, Nat.reduceLT, Int.reduceToNat, Int.reduceLT, Int.reduceLE, reduceCtorEq]
        repeat' ((first | refine FK_split (fun h_ => ?_) (fun h_ => ?_) | refine GK_split (fun h_ => ?_) (fun h_ => ?_) | refine ite_both (fun h_ => ?_) (fun h_ => ?_)) <;> (try simp only [decide_eq_true_eq, decide_eq_false_iff_not, Bool.not_true, Bool.not_false, Bool.not_eq_true', Bool.not_eq_false', Bool.not_eq_eq_eq_not, Decidable.not_not] at h_) <;> (try simp only [r63_0, r63_1, r63_2, r63_3, r63_4, r63_5, r63_6, r63_7, r63_8, r63_9, r63_10, c63, F63, c1, c2, c3, q3, q4, q5, q6, q7, h_, go_sem, Int.reduceTMod, Int.reduceTDiv, Int.reduceDiv, Int.reduceMod, Int.reduceAdd, Int.reduceSub, Int.reduceMul, Int.reduceNeg, Int.reducePow, Int.reduceEq, ↓reduceIte, Nat.reduceEqDiff, Nat.reduceAdd, Nat.reduceMul, Nat.reduceLeDiff, Nat.reduceSub, Nat.reduceLT, Int.reduceToNat, Int.reduceLT, Int.reduceLE, reduceCtorEq]))
/-- The shift that brings the highest digit to the top. -/
theorem v_LZ {x : Int} (h0 : 0 < x) (h1 : x < 18446744073709551616) :
    ∃ s : Nat, s ≤ 63 ∧ 9223372036854775808 ≤ x * 2 ^ s ∧ x * 2 ^ s < 18446744073709551616 ∧ callF TA 57 [RU x] (fun _ => none) 0 = some (RI s) := by
  obtain ⟨r, e1, ⟨e2, e2'⟩, e3⟩ := v_Len64 h0 h1
  have hr : r ≠ 0 := by intro h; subst h; simp at e2; omega
  have pw : (2 : Int) ^ r * 2 ^ (64 - r) = 18446744073709551616 := by rw [← Int.pow_add, show r + (64 - r) = 64 by omega]; decide
  have hp : (0 : Int) < 2 ^ (64 - r) := Int.pow_pos (by decide)
  have m1 := Int.mul_lt_mul_of_pos_right e2 hp
  have m2 := Int.mul_le_mul_of_nonneg_right e2' (Int.le_of_lt hp)
  rw [pw] at m1 m2
  rw [Int.mul_assoc] at m2
  refine ⟨64 - r, by omega, by omega, m1, callF_of (Fn_ofK (fn := F57) rfl (by simp [F57]) ?_)⟩
  have w : IntKind.i64.wrap (64 - (r : Int)) = ((64 - r : Nat) : Int) := by rw [IntKind.wrap_i64]; omega
  try simp only [r57_0, r57_1, c57, F57, e3, w, go_sem, Int.reduceTMod, Int.reduceTDiv, Int.reduceDiv, Int.reduceMod, Int.reduceAdd, Int.reduceSub, Int.reduceMul, Int.reduceNeg, Int.reducePow, Int.reduceEq, ↓reduceIte, Nat.reduceEqDiff, Nat.reduceAdd, Nat.reduceMul, Nat.reduceLeDiff, Nat.reduceSub, Nat.reduceLT, Int.reduceToNat, Int.reduceLT, Int.reduceLE, reduceCtorEq]
  repeat' ((first | refine FK_split (fun h_ => ?_) (fun h_ => ?_) | refine GK_split (fun h_ => ?_) (fun h_ => ?_) | refine ite_both (fun h_ => ?_) (fun h_ => ?_)) <;> (try simp only [decide_eq_true_eq, decide_eq_false_iff_not, Bool.not_true, Bool.not_false, Bool.not_eq_true', Bool.not_eq_false', Bool.not_eq_eq_eq_not, Decidable.not_not] at h_) <;> (try simp only [r57_0, r57_1, c57, F57, e3, w, h_, go_sem, Int.reduceTMod, Int.reduceTDiv, Int.reduceDiv, Int.reduceMod, Int.reduceAdd, Int.reduceSub, Int.reduceMul, Int.reduceNeg, Int.reducePow, Int.reduceEq, ↓reduceIte, Nat.reduceEqDiff, Nat.reduceAdd, Nat.reduceMul, Nat.reduceLeDiff, Nat.reduceSub, Nat.reduceLT, Int.reduceToNat, Int.reduceLT, Int.reduceLE, reduceCtorEq]))
end Go.Proofs.Ytffhhgcgnillaaa.Sy
