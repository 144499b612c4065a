/- Edits of paths: is there a segment, rows put together. Conditions: those that each theorem names. -/
import Derived.Test.YtpleidpbapgmiaaDoorPaJ
namespace Go.Proofs.YtpleidpbapgmiaaDoor.Sy
open Go Go.Proofs
set_option linter.unusedSimpArgs false
set_option linter.unusedVariables false
set_option maxRecDepth 20000
attribute [local go_sem] XK_seq XK_block XK_skip XK_exit XK_ret XK_cond XK_reg XK_dreg XK_ureg KN_seq KN_blk KN_lp KN_chk KN_chku KN_top KN_fin KX_seq KX_lp KX_blk KX_chk KX_top KR_seq KR_blk KR_lp KR_chk KR_top KR_fin FK_true FK_false RK_nil RK_mv RK_pick RK_alloc RK_box RK_build RK_bslice RK_load1 RK_loadA RK_store RK_nilchk RK_bin RK_beq RK_eqv RK_eqnil RK_un RK_conv RK_mkfn RK_mkslice RK_slS RK_slA RK_fadr RK_fld RK_iadrA RK_iadrS RK_idxA RK_ext RK_lenC RK_cap RK_app RK_appz RK_cpy RK_mn RK_mx RK_len RK_carry RK_clr carryR um0 um1 ThenK_some RK_guard GK_tt GK_ff GK_tf GK_ft GK_none QK_some RK_callQ RK_callZ RK_callT TK_some VK_clo RK_callV
  evalOp evO evOs upd_at unfrz_at putE_some putE_none boolOf_b boolOf_tup Option.map_some evRes pack_one pack_two pack_three pack_none List.getD_cons_zero List.getD_cons_succ getD_nil
  Option.some.injEq exists_eq_left' Reg.cs? fillC setL List.set_cons_zero List.set_cons_succ List.length_cons List.length_nil rd_upd rd_updn rdB wr List.drop_zero List.drop_succ_cons List.take_succ_cons List.take_zero List.getElem?_cons_zero List.getElem?_cons_succ
  ix Int.toNat_zero lenO_sl lenO_nil nadd na_eq na_eq' na_lt na_ee na_ll na_ne na_ne' na_tt
attribute [local go_sem] Reg.flat_one Reg.flat_agg Reg.flat_tup flats_nil flats_cons Cell.flat_sc Cell.flat_ptr List.all_cons List.all_nil disOk safeOk safeR decide_eq_true_eq decide_eq_false_iff_not
  List.map_cons List.map_nil List.cons_append List.nil_append List.append_nil evalOp.capsOf Bool.false_bne Bool.bne_false Bool.true_bne Bool.bne_true bne_self_eq_false beq_self_eq_true Bool.not_not Bool.false_and Bool.and_false Bool.true_or Bool.or_true beq_iff_eq eqCells
  Bool.true_beq Bool.false_beq Bool.not_eq_true' Bool.not_eq_eq_eq_not Bool.not_eq_false' and_false false_and frz_at idOf noId Option.isSome_some Bool.and_eq_true
attribute [local go_sem] wr_eq bV_add bV_sub bV_mul bV_eql bV_neq bV_lss bV_leq bV_gtr bV_geq bV_quo bV_rem bV_shr bV_shl uV_not uV_neg wrapU bits_and bits_or bits_xor IntKind.bits Nat.min_eq_left Nat.min_eq_right Nat.min_self
attribute [local go_sem] bne_iff_ne Int.cast_ofNat_Int Nat.zero_add Nat.add_zero and_self and_true true_and ne_eq not_false_eq_true not_true_eq_false decide_true decide_false Bool.false_eq_true Bool.not_true Bool.not_false Bool.true_and Bool.and_true Bool.or_false Bool.false_or Bool.and_self

def atE (l : List Sg) (i : Int) : Int := if chkP l = 0 then (if i < 0 ∨ (l.length : Int) ≤ i then 30 else 0) else chkP l
theorem v_at {r : Reg} {l : List Sg} {m : Mem} {n : Nat} {o : Bool} (i : Int) (hr : RSg m n r l) (h0 : m 0 = some ⟨needC, o⟩) (hn : 0 < n) : callF TA 42 [r, RI i] m n = some (RI (atE l i)) := by
  refine callF_of (Fn_ofK (fn := F42) rfl (by simp [F42]) ?_)
  have hlen := hr.len
  have vC := v_Check (o := false) hr.frz (by rw [frz_at, h0]; rfl) hn
  by_cases hk : chkP l = 0
  case neg =>
    have e : atE l i = chkP l := if_neg hk
    try simp only [r42_0, r42_1, r42_2, r42_3, r42_4, r42_5, r42_6, c42, F42, vC, hk, e, go_sem, Int.reduceTMod, Int.reduceTDiv, Int.reduceDiv, Int.reduceMod, Int.reduceAdd, Int.reduceSub, Int.reduceMul, Int.reduceNeg, Int.reducePow, Int.reduceEq, ↓reduceIte, Nat.reduceEqDiff, Nat.reduceAdd, Nat.reduceMul, Nat.reduceLeDiff, Nat.reduceSub, Nat.reduceLT, Int.reduceToNat, Int.reduceLT, Int.reduceLE, reduceCtorEq]
    repeat' ((first | refine FK_split (fun h_ => ?_) (fun h_ => ?_) | refine GK_split (fun h_ => ?_) (fun h_ => ?_) | refine ite_both (fun h_ => ?_) (fun h_ => ?_)) <;> (try simp only [decide_eq_true_eq, decide_eq_false_iff_not, Bool.not_true, Bool.not_false, Bool.not_eq_true', Bool.not_eq_false', Bool.not_eq_eq_eq_not, Decidable.not_not] at h_) <;> (try simp only [r42_0, r42_1, r42_2, r42_3, r42_4, r42_5, r42_6, c42, F42, vC, hk, e, h_, go_sem, Int.reduceTMod, Int.reduceTDiv, Int.reduceDiv, Int.reduceMod, Int.reduceAdd, Int.reduceSub, Int.reduceMul, Int.reduceNeg, Int.reducePow, Int.reduceEq, ↓reduceIte, Nat.reduceEqDiff, Nat.reduceAdd, Nat.reduceMul, Nat.reduceLeDiff, Nat.reduceSub, Nat.reduceLT, Int.reduceToNat, Int.reduceLT, Int.reduceLE, reduceCtorEq]))
  by_cases h1 : i < 0
  · have e : atE l i = 30 := by unfold atE; rw [if_pos hk, if_pos (Or.inl h1)]
    try simp only [r42_0, r42_1, r42_2, r42_3, r42_4, r42_5, r42_6, c42, F42, vC, hk, h1, e, go_sem, Int.reduceTMod, Int.reduceTDiv, Int.reduceDiv, Int.reduceMod, Int.reduceAdd, Int.reduceSub, Int.reduceMul, Int.reduceNeg, Int.reducePow, Int.reduceEq, ↓reduceIte, Nat.reduceEqDiff, Nat.reduceAdd, Nat.reduceMul, Nat.reduceLeDiff, Nat.reduceSub, Nat.reduceLT, Int.reduceToNat, Int.reduceLT, Int.reduceLE, reduceCtorEq]
    repeat' ((first | refine FK_split (fun h_ => ?_) (fun h_ => ?_) | refine GK_split (fun h_ => ?_) (fun h_ => ?_) | refine ite_both (fun h_ => ?_) (fun h_ => ?_)) <;> (try simp only [decide_eq_true_eq, decide_eq_false_iff_not, Bool.not_true, Bool.not_false, Bool.not_eq_true', Bool.not_eq_false', Bool.not_eq_eq_eq_not, Decidable.not_not] at h_) <;> (try simp only [r42_0, r42_1, r42_2, r42_3, r42_4, r42_5, r42_6, c42, F42, vC, hk, h1, e, h_, go_sem, Int.reduceTMod, Int.reduceTDiv, Int.reduceDiv, Int.reduceMod, Int.reduceAdd, Int.reduceSub, Int.reduceMul, Int.reduceNeg, Int.reducePow, Int.reduceEq, ↓reduceIte, Nat.reduceEqDiff, Nat.reduceAdd, Nat.reduceMul, Nat.reduceLeDiff, Nat.reduceSub, Nat.reduceLT, Int.reduceToNat, Int.reduceLT, Int.reduceLE, reduceCtorEq]))
  by_cases h2 : (l.length : Int) ≤ i
  · have e : atE l i = 30 := by unfold atE; rw [if_pos hk, if_pos (Or.inr h2)]
    try simp only [r42_0, r42_1, r42_2, r42_3, r42_4, r42_5, r42_6, c42, F42, vC, hk, h1, h2, hlen, e, go_sem, Int.reduceTMod, Int.reduceTDiv, Int.reduceDiv, Int.reduceMod, Int.reduceAdd, Int.reduceSub, Int.reduceMul, Int.reduceNeg, Int.reducePow, Int.reduceEq, ↓reduceIte, Nat.reduceEqDiff, Nat.reduceAdd, Nat.reduceMul, Nat.reduceLeDiff, Nat.reduceSub, Nat.reduceLT, Int.reduceToNat, Int.reduceLT, Int.reduceLE, reduceCtorEq]
    repeat' ((first | refine FK_split (fun h_ => ?_) (fun h_ => ?_) | refine GK_split (fun h_ => ?_) (fun h_ => ?_) | refine ite_both (fun h_ => ?_) (fun h_ => ?_)) <;> (try simp only [decide_eq_true_eq, decide_eq_false_iff_not, Bool.not_true, Bool.not_false, Bool.not_eq_true', Bool.not_eq_false', Bool.not_eq_eq_eq_not, Decidable.not_not] at h_) <;> (try simp only [r42_0, r42_1, r42_2, r42_3, r42_4, r42_5, r42_6, c42, F42, vC, hk, h1, h2, hlen, e, h_, go_sem, Int.reduceTMod, Int.reduceTDiv, Int.reduceDiv, Int.reduceMod, Int.reduceAdd, Int.reduceSub, Int.reduceMul, Int.reduceNeg, Int.reducePow, Int.reduceEq, ↓reduceIte, Nat.reduceEqDiff, Nat.reduceAdd, Nat.reduceMul, Nat.reduceLeDiff, Nat.reduceSub, Nat.reduceLT, Int.reduceToNat, Int.reduceLT, Int.reduceLE, reduceCtorEq]))
  · have e : atE l i = 0 := by unfold atE; rw [if_pos hk, if_neg (by omega)]
    try simp only [r42_0, r42_1, r42_2, r42_3, r42_4, r42_5, r42_6, c42, F42, vC, hk, h1, h2, hlen, e, go_sem, Int.reduceTMod, Int.reduceTDiv, Int.reduceDiv, Int.reduceMod, Int.reduceAdd, Int.reduceSub, Int.reduceMul, Int.reduceNeg, Int.reducePow, Int.reduceEq, ↓reduceIte, Nat.reduceEqDiff, Nat.reduceAdd, Nat.reduceMul, Nat.reduceLeDiff, Nat.reduceSub, Nat.reduceLT, Int.reduceToNat, Int.reduceLT, Int.reduceLE, reduceCtorEq]
    repeat' ((first | refine FK_split (fun h_ => ?_) (fun h_ => ?_) | refine GK_split (fun h_ => ?_) (fun h_ => ?_) | refine ite_both (fun h_ => ?_) (fun h_ => ?_)) <;> (try simp only [decide_eq_true_eq, decide_eq_false_iff_not, Bool.not_true, Bool.not_false, Bool.not_eq_true', Bool.not_eq_false', Bool.not_eq_eq_eq_not, Decidable.not_not] at h_) <;> (try simp only [r42_0, r42_1, r42_2, r42_3, r42_4, r42_5, r42_6, c42, F42, vC, hk, h1, h2, hlen, e, h_, go_sem, Int.reduceTMod, Int.reduceTDiv, Int.reduceDiv, Int.reduceMod, Int.reduceAdd, Int.reduceSub, Int.reduceMul, Int.reduceNeg, Int.reducePow, Int.reduceEq, ↓reduceIte, Nat.reduceEqDiff, Nat.reduceAdd, Nat.reduceMul, Nat.reduceLeDiff, Nat.reduceSub, Nat.reduceLT, Int.reduceToNat, Int.reduceLT, Int.reduceLE, reduceCtorEq]))
theorem w_checked {r : Reg} {l : List Sg} {m : Mem} {n : Nat} {o : Bool} (hr : RSg m n r l) (h0 : m 0 = some ⟨needC, o⟩) (hn : 0 < n) :
    Fn TA 52 [r] m n (fun r' m' n' => r' = .tup [if chkP l = 0 then r else rnil, RI (chkP l)] ∧ m' = m ∧ n' = n) := by
  refine Fn_ofK (fn := F52) rfl (by simp [F52]) ?_
  have vC := v_Check (o := false) hr.frz (by rw [frz_at, h0]; rfl) hn
  by_cases hk : chkP l = 0
  · skip
    try simp only [r52_0, r52_1, r52_2, r52_3, r52_4, c52, F52, vC, hk, go_sem, Int.reduceTMod, Int.reduceTDiv, Int.reduceDiv, Int.reduceMod, Int.reduceAdd, Int.reduceSub, Int.reduceMul, Int.reduceNeg, Int.reducePow, Int.reduceEq, ↓reduceIte, Nat.reduceEqDiff, Nat.reduceAdd, Nat.reduceMul, Nat.reduceLeDiff, Nat.reduceSub, Nat.reduceLT, Int.reduceToNat, Int.reduceLT, Int.reduceLE, reduceCtorEq]
    repeat' ((first | refine FK_split (fun h_ => ?_) (fun h_ => ?_) | refine GK_split (fun h_ => ?_) (fun h_ => ?_) | refine ite_both (fun h_ => ?_) (fun h_ => ?_)) <;> (try simp only [decide_eq_true_eq, decide_eq_false_iff_not, Bool.not_true, Bool.not_false, Bool.not_eq_true', Bool.not_eq_false', Bool.not_eq_eq_eq_not, Decidable.not_not] at h_) <;> (try simp only [r52_0, r52_1, r52_2, r52_3, r52_4, c52, F52, vC, hk, h_, go_sem, Int.reduceTMod, Int.reduceTDiv, Int.reduceDiv, Int.reduceMod, Int.reduceAdd, Int.reduceSub, Int.reduceMul, Int.reduceNeg, Int.reducePow, Int.reduceEq, ↓reduceIte, Nat.reduceEqDiff, Nat.reduceAdd, Nat.reduceMul, Nat.reduceLeDiff, Nat.reduceSub, Nat.reduceLT, Int.reduceToNat, Int.reduceLT, Int.reduceLE, reduceCtorEq]))
  · skip
    try simp only [r52_0, r52_1, r52_2, r52_3, r52_4, c52, F52, vC, hk, go_sem, Int.reduceTMod, Int.reduceTDiv, Int.reduceDiv, Int.reduceMod, Int.reduceAdd, Int.reduceSub, Int.reduceMul, Int.reduceNeg, Int.reducePow, Int.reduceEq, ↓reduceIte, Nat.reduceEqDiff, Nat.reduceAdd, Nat.reduceMul, Nat.reduceLeDiff, Nat.reduceSub, Nat.reduceLT, Int.reduceToNat, Int.reduceLT, Int.reduceLE, reduceCtorEq]
    repeat' ((first | refine FK_split (fun h_ => ?_) (fun h_ => ?_) | refine GK_split (fun h_ => ?_) (fun h_ => ?_) | refine ite_both (fun h_ => ?_) (fun h_ => ?_)) <;> (try simp only [decide_eq_true_eq, decide_eq_false_iff_not, Bool.not_true, Bool.not_false, Bool.not_eq_true', Bool.not_eq_false', Bool.not_eq_eq_eq_not, Decidable.not_not] at h_) <;> (try simp only [r52_0, r52_1, r52_2, r52_3, r52_4, c52, F52, vC, hk, h_, go_sem, Int.reduceTMod, Int.reduceTDiv, Int.reduceDiv, Int.reduceMod, Int.reduceAdd, Int.reduceSub, Int.reduceMul, Int.reduceNeg, Int.reducePow, Int.reduceEq, ↓reduceIte, Nat.reduceEqDiff, Nat.reduceAdd, Nat.reduceMul, Nat.reduceLeDiff, Nat.reduceSub, Nat.reduceLT, Int.reduceToNat, Int.reduceLT, Int.reduceLE, reduceCtorEq]))
theorem bnds_lo {len i : Nat} (h : i ≤ len) : bnds len none (some (RI i)) none none = some (i, len, none) := by
  simp [bnds, bMax, bHigh, bLow, inR_nat h]
theorem bnds_hi {len i : Nat} (h : i ≤ len) : bnds len none none (some (RI i)) none = some (0, i, none) := by
  simp [bnds, bMax, bHigh, bLow, inR_nat h]
theorem bnds_00 : bnds 0 (some 0) none (some (RI 0)) none = some (0, 0, some 0) := by simp [bnds, bMax, bHigh, bLow, inR, ix]
theorem bnds_01 : bnds 0 (some 0) (some (RI 0)) none none = some (0, 0, some 0) := by simp [bnds, bMax, bHigh, bLow, inR, ix]
theorem bnds_h0 {len : Nat} : bnds len none none (some (RI 0)) none = some (0, 0, none) := bnds_hi (i := 0) (Nat.zero_le _)
theorem w_Grow {k : Nat} {m : Mem} {n : Nat} (hk : k ≤ 4294967296) :
    Fn TA 59 [rnil, RI k] m n (fun r' m' n' => n ≤ n' ∧ ((k = 0 ∧ r' = rnil) ∨ (0 < k ∧ ∃ id cs, r' = .one (.sl id 0 0 none 7) ∧ n ≤ id ∧ id < n' ∧ m' id = some ⟨cs, true⟩))) := by
  refine Fn_ofK (fn := F59) rfl (by simp [F59]) ?_
  have g0 : ((k : Int) < 0) = False := eq_false (by omega)
  have w0 : IntKind.i64.wrap (k : Int) = k := wr_eq (by omega) (by omega)
  by_cases hz : k = 0
  · subst hz
    try simp only [r59_0, r59_1, r59_2, r59_3, r59_4, r59_5, r59_6, c59, F59, g0, w0, go_sem, Int.reduceTMod, Int.reduceTDiv, Int.reduceDiv, Int.reduceMod, Int.reduceAdd, Int.reduceSub, Int.reduceMul, Int.reduceNeg, Int.reducePow, Int.reduceEq, ↓reduceIte, Nat.reduceEqDiff, Nat.reduceAdd, Nat.reduceMul, Nat.reduceLeDiff, Nat.reduceSub, Nat.reduceLT, Int.reduceToNat, Int.reduceLT, Int.reduceLE, reduceCtorEq]
    repeat' ((first | refine FK_split (fun h_ => ?_) (fun h_ => ?_) | refine GK_split (fun h_ => ?_) (fun h_ => ?_) | refine ite_both (fun h_ => ?_) (fun h_ => ?_)) <;> (try simp only [decide_eq_true_eq, decide_eq_false_iff_not, Bool.not_true, Bool.not_false, Bool.not_eq_true', Bool.not_eq_false', Bool.not_eq_eq_eq_not, Decidable.not_not] at h_) <;> (try simp only [r59_0, r59_1, r59_2, r59_3, r59_4, r59_5, r59_6, c59, F59, g0, w0, h_, go_sem, Int.reduceTMod, Int.reduceTDiv, Int.reduceDiv, Int.reduceMod, Int.reduceAdd, Int.reduceSub, Int.reduceMul, Int.reduceNeg, Int.reducePow, Int.reduceEq, ↓reduceIte, Nat.reduceEqDiff, Nat.reduceAdd, Nat.reduceMul, Nat.reduceLeDiff, Nat.reduceSub, Nat.reduceLT, Int.reduceToNat, Int.reduceLT, Int.reduceLE, reduceCtorEq]))
    exact ⟨Nat.le_refl _, Or.inl trivial⟩
  · have g1 : (0 < (k : Int)) = True := eq_true (by omega)
    have g2 : ((k : Int) = 0) = False := eq_false (by omega)
    have g3 : (0 ≤ (k : Int)) = True := eq_true (by omega)
    have g4 : ((k : Int) ≤ 4294967296) = True := eq_true (by omega)
    try simp only [r59_0, r59_1, r59_2, r59_3, r59_4, r59_5, r59_6, c59, F59, g0, g1, g2, g3, g4, w0, Int.sub_zero, bnds_00, bnds_h0, Option.map_none, Int.toNat_natCast, go_sem, Int.reduceTMod, Int.reduceTDiv, Int.reduceDiv, Int.reduceMod, Int.reduceAdd, Int.reduceSub, Int.reduceMul, Int.reduceNeg, Int.reducePow, Int.reduceEq, ↓reduceIte, Nat.reduceEqDiff, Nat.reduceAdd, Nat.reduceMul, Nat.reduceLeDiff, Nat.reduceSub, Nat.reduceLT, Int.reduceToNat, Int.reduceLT, Int.reduceLE, reduceCtorEq]
    repeat' ((first | refine FK_split (fun h_ => ?_) (fun h_ => ?_) | refine GK_split (fun h_ => ?_) (fun h_ => ?_) | refine ite_both (fun h_ => ?_) (fun h_ => ?_)) <;> (try simp only [decide_eq_true_eq, decide_eq_false_iff_not, Bool.not_true, Bool.not_false, Bool.not_eq_true', Bool.not_eq_false', Bool.not_eq_eq_eq_not, Decidable.not_not] at h_) <;> (try simp only [r59_0, r59_1, r59_2, r59_3, r59_4, r59_5, r59_6, c59, F59, g0, g1, g2, g3, g4, w0, Int.sub_zero, bnds_00, bnds_h0, Option.map_none, Int.toNat_natCast, h_, go_sem, Int.reduceTMod, Int.reduceTDiv, Int.reduceDiv, Int.reduceMod, Int.reduceAdd, Int.reduceSub, Int.reduceMul, Int.reduceNeg, Int.reducePow, Int.reduceEq, ↓reduceIte, Nat.reduceEqDiff, Nat.reduceAdd, Nat.reduceMul, Nat.reduceLeDiff, Nat.reduceSub, Nat.reduceLT, Int.reduceToNat, Int.reduceLT, Int.reduceLE, reduceCtorEq]))
    exact ⟨by omega, Or.inr ⟨by omega, n, _, rfl, by omega, by omega, if_pos rfl⟩⟩
/-- A row of the call's own, its block with more than what is read. -/
def GL (base : Nat) (m : Mem) (n : Nat) (r : Reg) (l : List Sg) : Prop :=
  (r = rnil ∧ l = []) ∨ ∃ id cs, r = .one (.sl id 0 l.length none 7) ∧ base ≤ id ∧ id < n ∧ m id = some ⟨cs, true⟩ ∧ rd m id 0 (l.length * 7) = some (l.flatMap Sg.cs)
theorem GL.rl {base : Nat} {m : Mem} {n : Nat} {r : Reg} {l : List Sg} (h : GL base m n r l) : RSg m n r l := by
  rcases h with h | ⟨id, cs, h1, h2, h3, h4, h5⟩
  · exact Or.inl h
  · exact Or.inr ⟨id, 0, none, h1, h3, h5⟩
theorem GL.sidge {base : Nat} {m : Mem} {n : Nat} {r : Reg} {l : List Sg} (h : GL base m n r l) {j : Nat} (hj : sid r = some j) : base ≤ j := by
  rcases h with ⟨rfl, _⟩ | ⟨id, cs, rfl, h2, _⟩
  · cases hj
  · simp only [sid, Option.some.injEq] at hj; omega
theorem GL.keep {base : Nat} {m m' : Mem} {n n' : Nat} {r : Reg} {l : List Sg} (h : GL base m n r l) (hn : n ≤ n') (hm : ∀ id, base ≤ id → id < n → m' id = m id) : GL base m' n' r l := by
  rcases h with h | ⟨id, cs, h1, h2, h3, h4, h5⟩
  · exact Or.inl h
  · have := hm id h2 h3
    exact Or.inr ⟨id, cs, h1, h2, by omega, by rw [this]; exact h4, by rw [rd_same this]; exact h5⟩
theorem K_catG {T : Nat → Option SFun} {base n0 n nx : Nat} {m0 m : Mem} {r0 x : Reg} {l xs : List Sg} {by' : Nat} {d : Option Nat} {os : List SOper} {e : Nat → Reg} {k : Kt}
    (ho : GL base m0 n0 r0 l) (hn : n0 ≤ n) (hm : ∀ id, base ≤ id → id < n0 → m id = m0 id) (hx : RSg m nx x xs) (hsm : l.length + xs.length ≤ 4294967296) (hbase : base ≤ n)
    (next : ∀ r' m' n', n ≤ n' → GL base m' n' r' (l ++ xs) → (∀ id, id < n → sid r0 ≠ some id → m' id = m id) → RK T os (putE e d r') m' n' k) :
    ThenK T d os e k (evApp m n 7 by' r0 x) := by
  have hnews : newsOf m 7 x = some (xs.length, xs.flatMap Sg.cs) := by
    rcases hx with ⟨rfl, rfl⟩ | ⟨ix, off, cap, rfl, _, h3⟩
    · rfl
    · simp only [newsOf, if_true, h3, Option.map_some]
  have mk : ∀ (m1 : Mem) (id : Nat) (k : List Sg), m1 id = some ⟨k.flatMap Sg.cs, true⟩ → rd m1 id 0 (k.length * 7) = some (k.flatMap Sg.cs) := fun m1 id k h => by
    have hl := flatMap_len Sg.cs 7 cs7 k
    rw [rd_of h]
    unfold rdB
    rw [if_pos (by rw [hl]; omega), List.drop_zero, ← hl, List.take_length]
  rcases ho with ⟨rfl, rfl⟩ | ⟨id, cs, rfl, h2, h3, h4, h4'⟩
  · simp only [evApp, hnews]
    by_cases hx0 : xs = []
    · subst hx0
      simp only [List.length_nil, if_true]
      exact next _ _ _ (Nat.le_refl _) (Or.inl ⟨rfl, rfl⟩) (fun _ _ _ => rfl)
    · have hpos := List.length_pos_iff.2 hx0
      rw [if_neg (by omega), if_pos (by simp only [List.length_nil] at hsm; omega)]
      exact next _ _ _ (Nat.le_succ _) (Or.inr ⟨n, _, by simp, hbase, by omega, upd_same _ _ _, mk _ _ _ (by rw [upd_same]; simp)⟩) (fun i hi _ => upd_ne _ _ (by omega))
  · have h5 : m id = some ⟨cs, true⟩ := by rw [hm id h2 h3]; exact h4
    have h6 : rd m id 0 (l.length * 7) = some (l.flatMap Sg.cs) := by rw [rd_same (hm id h2 h3)]; exact h4'
    simp only [evApp, hnews, if_true, h5, h6, Option.map_some, true_and, if_pos hsm]
    exact next _ _ _ (Nat.le_succ _) (Or.inr ⟨n, _, by simp, hbase, by omega, upd_same _ _ _, mk _ _ _ (by rw [upd_same]; simp)⟩) (fun i hi hs => by rw [upd_ne _ _ (by omega), upd_ne _ _ (fun e => hs (by rw [e]; rfl))])
/-- Cells that are rows. -/
def RLs (m : Mem) (n : Nat) : List Cell → List (List Sg) → Prop
  | [], [] => True
  | c :: cs, l :: ls => RSg m n (.one c) l ∧ RLs m n cs ls
  | _, _ => False
theorem RLs.len {m : Mem} {n : Nat} : ∀ {cs : List Cell} {ls : List (List Sg)}, RLs m n cs ls → cs.length = ls.length
  | [], [], _ => rfl
  | _ :: _, _ :: _, h => by rw [List.length_cons, List.length_cons, h.2.len]
theorem RLs.get {m : Mem} {n : Nat} : ∀ {cs : List Cell} {ls : List (List Sg)} {i : Nat} {l : List Sg}, RLs m n cs ls → ls[i]? = some l → ∃ c, cs[i]? = some c ∧ RSg m n (.one c) l
  | c :: _, _ :: _, 0, _, h, hi => by cases hi; exact ⟨c, rfl, h.1⟩
  | _ :: _, _ :: _, i + 1, _, h, hi => h.2.get (i := i) (by simpa using hi)
  | [], [], _, _, _, hi => by simp at hi
theorem flat_snoc {ls : List (List Sg)} {i : Nat} {l : List Sg} (h : ls[i]? = some l) : (ls.take (i + 1)).flatten = (ls.take i).flatten ++ l := by
  rw [take_snoc h, List.flatten_append]
  simp
theorem flat_le : ∀ (ls : List (List Sg)) (i : Nat), (ls.take i).flatten.length ≤ ls.flatten.length
  | [], i => by simp
  | l :: ls, 0 => by simp
  | l :: ls, i + 1 => by
    have := flat_le ls i
    simp only [List.take_succ_cons, List.flatten_cons, List.length_append]
    omega
set_option maxHeartbeats 2000000 in
theorem w_Concat {cs : List Cell} {ls : List (List Sg)} {m : Mem} {n b : Nat} {ow : Bool} (hb : m b = some ⟨cs, ow⟩) (hbn : b < n) (hl : RLs m n cs ls) (hs : ls.flatten.length < 4294967296) (hls : ls.length < 4294967296) :
    Fn TA 45 [.one (.sl b 0 cs.length (some cs.length) 1)] m n (fun r' m' n' => n ≤ n' ∧ GL n m' n' r' ls.flatten) := by
  refine Fn_ofK (fn := F45) rfl (by simp [F45]) ?_
  have hcl := hl.len
  rw [hcl]
  try simp only [F45, c45, r45_0, r45_1, r45_2, go_sem, Int.reduceTMod, Int.reduceTDiv, Int.reduceDiv, Int.reduceMod, Int.reduceAdd, Int.reduceSub, Int.reduceMul, Int.reduceNeg, Int.reducePow, Int.reduceEq, ↓reduceIte, Nat.reduceEqDiff, Nat.reduceAdd, Nat.reduceMul, Nat.reduceLeDiff, Nat.reduceSub, Nat.reduceLT, Int.reduceToNat, Int.reduceLT, Int.reduceLE, reduceCtorEq]
  repeat' ((first | refine FK_split (fun h_ => ?_) (fun h_ => ?_) | refine GK_split (fun h_ => ?_) (fun h_ => ?_) | refine ite_both (fun h_ => ?_) (fun h_ => ?_)) <;> (try simp only [decide_eq_true_eq, decide_eq_false_iff_not, Bool.not_true, Bool.not_false, Bool.not_eq_true', Bool.not_eq_false', Bool.not_eq_eq_eq_not, Decidable.not_not] at h_) <;> (try simp only [F45, c45, r45_0, r45_1, r45_2, h_, go_sem, Int.reduceTMod, Int.reduceTDiv, Int.reduceDiv, Int.reduceMod, Int.reduceAdd, Int.reduceSub, Int.reduceMul, Int.reduceNeg, Int.reducePow, Int.reduceEq, ↓reduceIte, Nat.reduceEqDiff, Nat.reduceAdd, Nat.reduceMul, Nat.reduceLeDiff, Nat.reduceSub, Nat.reduceLT, Int.reduceToNat, Int.reduceLT, Int.reduceLE, reduceCtorEq]))
  refine XK_iter (inv := fun i s => s.e 11 = RI i ∧ s.e 10 = RI ls.length ∧ s.e 9 = .one (.sl b 0 ls.length (some ls.length) 1) ∧ s.e 0 = .one (.sl b 0 ls.length (some ls.length) 1) ∧ s.e 3 = RI (ls.take i).flatten.length ∧ s.m = m ∧ s.n = n) ls.length
    (fun L _ => ⟨fun i hi s hs next => ?_, fun s hs => ?_⟩) 0 (by omega) _ ⟨?_, ?_, ?_, ?_, ?_, rfl, rfl⟩
  · obtain ⟨e, M, N⟩ := s
    obtain ⟨q11, q10, q9, q0, q3, qm, qn⟩ := hs
    simp only at q11 q10 q9 q0 q3 qm qn
    subst qm qn
    have hp : ls[i]? = some ls[i] := List.getElem?_eq_getElem hi
    obtain ⟨c, hc, hr⟩ := hl.get hp
    have hsn := congrArg List.length (flat_snoc hp)
    have hle := flat_le ls (i + 1)
    rw [List.length_append] at hsn
    generalize ls[i] = p at *
    have hlen := hr.len
    have c2 : ((i : Int) < (ls.length : Int)) = True := eq_true (by omega)
    have c3 : (0 ≤ (i : Int)) = True := eq_true (by omega)
    have c7 : IntKind.i64.wrap ((i : Int) + 1) = ((i + 1 : Nat) : Int) := wr_nat (by omega)
    have w1 : IntKind.i64.wrap (((ls.take i).flatten.length : Int) + (p.length : Int)) = (((ls.take (i + 1)).flatten.length : Nat) : Int) := (wr_eq (by omega) (by omega)).trans (by omega)
    have c4 : ((((ls.take (i + 1)).flatten.length : Nat) : Int) < 0) = False := eq_false (by omega)
    generalize (ls.take (i + 1)).flatten.length = S1 at *
    generalize (ls.take i).flatten.length = S0 at *
    try simp only [r45_0, r45_1, r45_2, r45_3, r45_4, r45_5, r45_6, r45_7, r45_8, r45_9, r45_10, r45_11, r45_12, r45_13, r45_14, r45_15, c45, F45, l45_0, q11, q10, q9, q3, c2, c3, c4, c7, w1, hb, hc, hlen, Int.toNat_natCast, Nat.mul_one, Nat.zero_add, go_sem, Int.reduceTMod, Int.reduceTDiv, Int.reduceDiv, Int.reduceMod, Int.reduceAdd, Int.reduceSub, Int.reduceMul, Int.reduceNeg, Int.reducePow, Int.reduceEq, ↓reduceIte, Nat.reduceEqDiff, Nat.reduceAdd, Nat.reduceMul, Nat.reduceLeDiff, Nat.reduceSub, Nat.reduceLT, Int.reduceToNat, Int.reduceLT, Int.reduceLE, reduceCtorEq]
    repeat' ((first | refine FK_split (fun h_ => ?_) (fun h_ => ?_) | refine GK_split (fun h_ => ?_) (fun h_ => ?_) | refine ite_both (fun h_ => ?_) (fun h_ => ?_)) <;> (try simp only [decide_eq_true_eq, decide_eq_false_iff_not, Bool.not_true, Bool.not_false, Bool.not_eq_true', Bool.not_eq_false', Bool.not_eq_eq_eq_not, Decidable.not_not] at h_) <;> (try simp only [r45_0, r45_1, r45_2, r45_3, r45_4, r45_5, r45_6, r45_7, r45_8, r45_9, r45_10, r45_11, r45_12, r45_13, r45_14, r45_15, c45, F45, l45_0, q11, q10, q9, q3, c2, c3, c4, c7, w1, hb, hc, hlen, Int.toNat_natCast, Nat.mul_one, Nat.zero_add, h_, go_sem, Int.reduceTMod, Int.reduceTDiv, Int.reduceDiv, Int.reduceMod, Int.reduceAdd, Int.reduceSub, Int.reduceMul, Int.reduceNeg, Int.reducePow, Int.reduceEq, ↓reduceIte, Nat.reduceEqDiff, Nat.reduceAdd, Nat.reduceMul, Nat.reduceLeDiff, Nat.reduceSub, Nat.reduceLT, Int.reduceToNat, Int.reduceLT, Int.reduceLE, reduceCtorEq]))
    refine next _ ⟨?_, ?_, ?_, ?_, ?_, rfl, rfl⟩
    · simp only [go_sem, Int.reduceTMod, Int.reduceTDiv, Int.reduceDiv, Int.reduceMod, Int.reduceAdd, Int.reduceSub, Int.reduceMul, Int.reduceNeg, Int.reducePow, Int.reduceEq, ↓reduceIte, Nat.reduceEqDiff, Nat.reduceAdd, Nat.reduceMul, Nat.reduceLeDiff, Nat.reduceSub, Nat.reduceLT, Int.reduceToNat, Int.reduceLT, Int.reduceLE, reduceCtorEq]
    · simp only [q10, go_sem, Int.reduceTMod, Int.reduceTDiv, Int.reduceDiv, Int.reduceMod, Int.reduceAdd, Int.reduceSub, Int.reduceMul, Int.reduceNeg, Int.reducePow, Int.reduceEq, ↓reduceIte, Nat.reduceEqDiff, Nat.reduceAdd, Nat.reduceMul, Nat.reduceLeDiff, Nat.reduceSub, Nat.reduceLT, Int.reduceToNat, Int.reduceLT, Int.reduceLE, reduceCtorEq]
    · simp only [q9, go_sem, Int.reduceTMod, Int.reduceTDiv, Int.reduceDiv, Int.reduceMod, Int.reduceAdd, Int.reduceSub, Int.reduceMul, Int.reduceNeg, Int.reducePow, Int.reduceEq, ↓reduceIte, Nat.reduceEqDiff, Nat.reduceAdd, Nat.reduceMul, Nat.reduceLeDiff, Nat.reduceSub, Nat.reduceLT, Int.reduceToNat, Int.reduceLT, Int.reduceLE, reduceCtorEq]
    · simp only [q0, go_sem, Int.reduceTMod, Int.reduceTDiv, Int.reduceDiv, Int.reduceMod, Int.reduceAdd, Int.reduceSub, Int.reduceMul, Int.reduceNeg, Int.reducePow, Int.reduceEq, ↓reduceIte, Nat.reduceEqDiff, Nat.reduceAdd, Nat.reduceMul, Nat.reduceLeDiff, Nat.reduceSub, Nat.reduceLT, Int.reduceToNat, Int.reduceLT, Int.reduceLE, reduceCtorEq]
    · simp only [go_sem, Int.reduceTMod, Int.reduceTDiv, Int.reduceDiv, Int.reduceMod, Int.reduceAdd, Int.reduceSub, Int.reduceMul, Int.reduceNeg, Int.reducePow, Int.reduceEq, ↓reduceIte, Nat.reduceEqDiff, Nat.reduceAdd, Nat.reduceMul, Nat.reduceLeDiff, Nat.reduceSub, Nat.reduceLT, Int.reduceToNat, Int.reduceLT, Int.reduceLE, reduceCtorEq]
  · obtain ⟨e, M, N⟩ := s
    obtain ⟨q11, q10, q9, q0, q3, qm, qn⟩ := hs
    simp only at q11 q10 q9 q0 q3 qm qn
    subst qm qn
    have c2 : ((ls.length : Int) < (ls.length : Int)) = False := eq_false (by omega)
    rw [List.take_length] at q3
    try simp only [r45_3, r45_9, l45_0, q11, q10, q3, c2, go_sem, Int.reduceTMod, Int.reduceTDiv, Int.reduceDiv, Int.reduceMod, Int.reduceAdd, Int.reduceSub, Int.reduceMul, Int.reduceNeg, Int.reducePow, Int.reduceEq, ↓reduceIte, Nat.reduceEqDiff, Nat.reduceAdd, Nat.reduceMul, Nat.reduceLeDiff, Nat.reduceSub, Nat.reduceLT, Int.reduceToNat, Int.reduceLT, Int.reduceLE, reduceCtorEq]
    repeat' ((first | refine FK_split (fun h_ => ?_) (fun h_ => ?_) | refine GK_split (fun h_ => ?_) (fun h_ => ?_) | refine ite_both (fun h_ => ?_) (fun h_ => ?_)) <;> (try simp only [decide_eq_true_eq, decide_eq_false_iff_not, Bool.not_true, Bool.not_false, Bool.not_eq_true', Bool.not_eq_false', Bool.not_eq_eq_eq_not, Decidable.not_not] at h_) <;> (try simp only [r45_3, r45_9, l45_0, q11, q10, q3, c2, h_, go_sem, Int.reduceTMod, Int.reduceTDiv, Int.reduceDiv, Int.reduceMod, Int.reduceAdd, Int.reduceSub, Int.reduceMul, Int.reduceNeg, Int.reducePow, Int.reduceEq, ↓reduceIte, Nat.reduceEqDiff, Nat.reduceAdd, Nat.reduceMul, Nat.reduceLeDiff, Nat.reduceSub, Nat.reduceLT, Int.reduceToNat, Int.reduceLT, Int.reduceLE, reduceCtorEq]))
    refine RK_callk ?_
    refine (w_Grow (k := ls.flatten.length) (by omega)).mono ?_
    rintro r1 m1 n1 ⟨hn1, hg⟩
    obtain ⟨M1, hM1⟩ : ∃ M1, M1 = unfrz M N m1 := ⟨_, rfl⟩
    rw [← hM1, show max N n1 = n1 by omega]
    have hf1 : ∀ id, id < N → M1 id = M id := fun id hid => by rw [hM1, unfrz_at, if_pos hid]
    have hg1 : ∀ id, N ≤ id → M1 id = m1 id := fun id hid => by rw [hM1, unfrz_at, if_neg (by omega)]
    have hG : GL N M1 n1 r1 [] := by
      rcases hg with ⟨_, h⟩ | ⟨_, id, cs', h1, h2, h3, h4⟩
      · exact Or.inl ⟨h, rfl⟩
      · refine Or.inr ⟨id, cs', h1, h2, h3, by rw [hg1 id h2]; exact h4, ?_⟩
        rw [rd_of (show M1 id = some ⟨cs', true⟩ by rw [hg1 id h2]; exact h4)]
        simp [rdB]
    clear hM1 hg
    try simp only [r45_9, r45_10, q0, go_sem, Int.reduceTMod, Int.reduceTDiv, Int.reduceDiv, Int.reduceMod, Int.reduceAdd, Int.reduceSub, Int.reduceMul, Int.reduceNeg, Int.reducePow, Int.reduceEq, ↓reduceIte, Nat.reduceEqDiff, Nat.reduceAdd, Nat.reduceMul, Nat.reduceLeDiff, Nat.reduceSub, Nat.reduceLT, Int.reduceToNat, Int.reduceLT, Int.reduceLE, reduceCtorEq]
    repeat' ((first | refine FK_split (fun h_ => ?_) (fun h_ => ?_) | refine GK_split (fun h_ => ?_) (fun h_ => ?_) | refine ite_both (fun h_ => ?_) (fun h_ => ?_)) <;> (try simp only [decide_eq_true_eq, decide_eq_false_iff_not, Bool.not_true, Bool.not_false, Bool.not_eq_true', Bool.not_eq_false', Bool.not_eq_eq_eq_not, Decidable.not_not] at h_) <;> (try simp only [r45_9, r45_10, q0, h_, go_sem, Int.reduceTMod, Int.reduceTDiv, Int.reduceDiv, Int.reduceMod, Int.reduceAdd, Int.reduceSub, Int.reduceMul, Int.reduceNeg, Int.reducePow, Int.reduceEq, ↓reduceIte, Nat.reduceEqDiff, Nat.reduceAdd, Nat.reduceMul, Nat.reduceLeDiff, Nat.reduceSub, Nat.reduceLT, Int.reduceToNat, Int.reduceLT, Int.reduceLE, reduceCtorEq]))
    refine XK_iter (inv := fun i s => s.e 27 = RI i ∧ s.e 26 = RI ls.length ∧ s.e 25 = .one (.sl b 0 ls.length (some ls.length) 1) ∧ N ≤ s.n ∧ (∀ id, id < N → s.m id = M id) ∧ GL N s.m s.n (s.e 6) (ls.take i).flatten) ls.length
      (fun L2 _ => ⟨fun i hi s hs next => ?_, fun s hs => ?_⟩) 0 (by omega) _ ⟨?_, ?_, ?_, ?_, ?_, ?_⟩
    · obtain ⟨e2, M2, N2⟩ := s
      obtain ⟨p27, p26, p25, pn, pm, pg⟩ := hs
      simp only at p27 p26 p25 pn pm pg
      have hp : ls[i]? = some ls[i] := List.getElem?_eq_getElem hi
      obtain ⟨c, hc, hr⟩ := hl.get hp
      have hsn := flat_snoc hp
      have hle := flat_le ls (i + 1)
      rw [hsn, List.length_append] at hle
      generalize ls[i] = p at *
      have c2 : ((i : Int) < (ls.length : Int)) = True := eq_true (by omega)
      have c3 : (0 ≤ (i : Int)) = True := eq_true (by omega)
      have c7 : IntKind.i64.wrap ((i : Int) + 1) = ((i + 1 : Nat) : Int) := wr_nat (by omega)
      have hb2 : M2 b = some ⟨cs, ow⟩ := by rw [pm b hbn]; exact hb
      try simp only [r45_0, r45_1, r45_2, r45_3, r45_4, r45_5, r45_6, r45_7, r45_8, r45_9, r45_10, r45_11, r45_12, r45_13, r45_14, r45_15, c45, F45, l45_1, p27, p26, p25, c2, c3, hb2, hc, Int.toNat_natCast, Nat.mul_one, Nat.zero_add, go_sem, Int.reduceTMod, Int.reduceTDiv, Int.reduceDiv, Int.reduceMod, Int.reduceAdd, Int.reduceSub, Int.reduceMul, Int.reduceNeg, Int.reducePow, Int.reduceEq, ↓reduceIte, Nat.reduceEqDiff, Nat.reduceAdd, Nat.reduceMul, Nat.reduceLeDiff, Nat.reduceSub, Nat.reduceLT, Int.reduceToNat, Int.reduceLT, Int.reduceLE, reduceCtorEq]
      repeat' ((first | refine FK_split (fun h_ => ?_) (fun h_ => ?_) | refine GK_split (fun h_ => ?_) (fun h_ => ?_) | refine ite_both (fun h_ => ?_) (fun h_ => ?_)) <;> (try simp only [decide_eq_true_eq, decide_eq_false_iff_not, Bool.not_true, Bool.not_false, Bool.not_eq_true', Bool.not_eq_false', Bool.not_eq_eq_eq_not, Decidable.not_not] at h_) <;> (try simp only [r45_0, r45_1, r45_2, r45_3, r45_4, r45_5, r45_6, r45_7, r45_8, r45_9, r45_10, r45_11, r45_12, r45_13, r45_14, r45_15, c45, F45, l45_1, p27, p26, p25, c2, c3, hb2, hc, Int.toNat_natCast, Nat.mul_one, Nat.zero_add, h_, go_sem, Int.reduceTMod, Int.reduceTDiv, Int.reduceDiv, Int.reduceMod, Int.reduceAdd, Int.reduceSub, Int.reduceMul, Int.reduceNeg, Int.reducePow, Int.reduceEq, ↓reduceIte, Nat.reduceEqDiff, Nat.reduceAdd, Nat.reduceMul, Nat.reduceLeDiff, Nat.reduceSub, Nat.reduceLT, Int.reduceToNat, Int.reduceLT, Int.reduceLE, reduceCtorEq]))
      refine K_catG pg (Nat.le_refl _) (fun _ _ _ => rfl) (hr.keep pn pm) (by omega) pn ?_
      intro r' m' n' h1 h2 h3
      try simp only [r45_0, r45_1, r45_2, r45_3, r45_4, r45_5, r45_6, r45_7, r45_8, r45_9, r45_10, r45_11, r45_12, r45_13, r45_14, r45_15, c45, F45, p27, c7, go_sem, Int.reduceTMod, Int.reduceTDiv, Int.reduceDiv, Int.reduceMod, Int.reduceAdd, Int.reduceSub, Int.reduceMul, Int.reduceNeg, Int.reducePow, Int.reduceEq, ↓reduceIte, Nat.reduceEqDiff, Nat.reduceAdd, Nat.reduceMul, Nat.reduceLeDiff, Nat.reduceSub, Nat.reduceLT, Int.reduceToNat, Int.reduceLT, Int.reduceLE, reduceCtorEq]
      repeat' ((first | refine FK_split (fun h_ => ?_) (fun h_ => ?_) | refine GK_split (fun h_ => ?_) (fun h_ => ?_) | refine ite_both (fun h_ => ?_) (fun h_ => ?_)) <;> (try simp only [decide_eq_true_eq, decide_eq_false_iff_not, Bool.not_true, Bool.not_false, Bool.not_eq_true', Bool.not_eq_false', Bool.not_eq_eq_eq_not, Decidable.not_not] at h_) <;> (try simp only [r45_0, r45_1, r45_2, r45_3, r45_4, r45_5, r45_6, r45_7, r45_8, r45_9, r45_10, r45_11, r45_12, r45_13, r45_14, r45_15, c45, F45, p27, c7, h_, go_sem, Int.reduceTMod, Int.reduceTDiv, Int.reduceDiv, Int.reduceMod, Int.reduceAdd, Int.reduceSub, Int.reduceMul, Int.reduceNeg, Int.reducePow, Int.reduceEq, ↓reduceIte, Nat.reduceEqDiff, Nat.reduceAdd, Nat.reduceMul, Nat.reduceLeDiff, Nat.reduceSub, Nat.reduceLT, Int.reduceToNat, Int.reduceLT, Int.reduceLE, reduceCtorEq]))
      refine next _ ⟨?_, ?_, ?_, ?_, ?_, ?_⟩
      · simp only [go_sem, Int.reduceTMod, Int.reduceTDiv, Int.reduceDiv, Int.reduceMod, Int.reduceAdd, Int.reduceSub, Int.reduceMul, Int.reduceNeg, Int.reducePow, Int.reduceEq, ↓reduceIte, Nat.reduceEqDiff, Nat.reduceAdd, Nat.reduceMul, Nat.reduceLeDiff, Nat.reduceSub, Nat.reduceLT, Int.reduceToNat, Int.reduceLT, Int.reduceLE, reduceCtorEq]
      · simp only [p26, go_sem, Int.reduceTMod, Int.reduceTDiv, Int.reduceDiv, Int.reduceMod, Int.reduceAdd, Int.reduceSub, Int.reduceMul, Int.reduceNeg, Int.reducePow, Int.reduceEq, ↓reduceIte, Nat.reduceEqDiff, Nat.reduceAdd, Nat.reduceMul, Nat.reduceLeDiff, Nat.reduceSub, Nat.reduceLT, Int.reduceToNat, Int.reduceLT, Int.reduceLE, reduceCtorEq]
      · simp only [p25, go_sem, Int.reduceTMod, Int.reduceTDiv, Int.reduceDiv, Int.reduceMod, Int.reduceAdd, Int.reduceSub, Int.reduceMul, Int.reduceNeg, Int.reducePow, Int.reduceEq, ↓reduceIte, Nat.reduceEqDiff, Nat.reduceAdd, Nat.reduceMul, Nat.reduceLeDiff, Nat.reduceSub, Nat.reduceLT, Int.reduceToNat, Int.reduceLT, Int.reduceLE, reduceCtorEq]
      · simp only; omega
      · intro id hid
        simp only
        rw [h3 id (by omega) (fun h => by have := pg.sidge h; omega)]
        exact pm id hid
      · simp only [go_sem, Int.reduceTMod, Int.reduceTDiv, Int.reduceDiv, Int.reduceMod, Int.reduceAdd, Int.reduceSub, Int.reduceMul, Int.reduceNeg, Int.reducePow, Int.reduceEq, ↓reduceIte, Nat.reduceEqDiff, Nat.reduceAdd, Nat.reduceMul, Nat.reduceLeDiff, Nat.reduceSub, Nat.reduceLT, Int.reduceToNat, Int.reduceLT, Int.reduceLE, reduceCtorEq]
        rw [hsn]
        exact h2
    · obtain ⟨e2, M2, N2⟩ := s
      obtain ⟨p27, p26, p25, pn, pm, pg⟩ := hs
      simp only at p27 p26 p25 pn pm pg
      have c2 : ((ls.length : Int) < (ls.length : Int)) = False := eq_false (by omega)
      rw [List.take_length] at pg
      try simp only [r45_0, r45_1, r45_2, r45_3, r45_4, r45_5, r45_6, r45_7, r45_8, r45_9, r45_10, r45_11, r45_12, r45_13, r45_14, r45_15, c45, F45, l45_1, p27, p26, c2, go_sem, Int.reduceTMod, Int.reduceTDiv, Int.reduceDiv, Int.reduceMod, Int.reduceAdd, Int.reduceSub, Int.reduceMul, Int.reduceNeg, Int.reducePow, Int.reduceEq, ↓reduceIte, Nat.reduceEqDiff, Nat.reduceAdd, Nat.reduceMul, Nat.reduceLeDiff, Nat.reduceSub, Nat.reduceLT, Int.reduceToNat, Int.reduceLT, Int.reduceLE, reduceCtorEq]
      repeat' ((first | refine FK_split (fun h_ => ?_) (fun h_ => ?_) | refine GK_split (fun h_ => ?_) (fun h_ => ?_) | refine ite_both (fun h_ => ?_) (fun h_ => ?_)) <;> (try simp only [decide_eq_true_eq, decide_eq_false_iff_not, Bool.not_true, Bool.not_false, Bool.not_eq_true', Bool.not_eq_false', Bool.not_eq_eq_eq_not, Decidable.not_not] at h_) <;> (try simp only [r45_0, r45_1, r45_2, r45_3, r45_4, r45_5, r45_6, r45_7, r45_8, r45_9, r45_10, r45_11, r45_12, r45_13, r45_14, r45_15, c45, F45, l45_1, p27, p26, c2, h_, go_sem, Int.reduceTMod, Int.reduceTDiv, Int.reduceDiv, Int.reduceMod, Int.reduceAdd, Int.reduceSub, Int.reduceMul, Int.reduceNeg, Int.reducePow, Int.reduceEq, ↓reduceIte, Nat.reduceEqDiff, Nat.reduceAdd, Nat.reduceMul, Nat.reduceLeDiff, Nat.reduceSub, Nat.reduceLT, Int.reduceToNat, Int.reduceLT, Int.reduceLE, reduceCtorEq]))
      exact ⟨pn, pg⟩
    · simp only [go_sem, Int.reduceTMod, Int.reduceTDiv, Int.reduceDiv, Int.reduceMod, Int.reduceAdd, Int.reduceSub, Int.reduceMul, Int.reduceNeg, Int.reducePow, Int.reduceEq, ↓reduceIte, Nat.reduceEqDiff, Nat.reduceAdd, Nat.reduceMul, Nat.reduceLeDiff, Nat.reduceSub, Nat.reduceLT, Int.reduceToNat, Int.reduceLT, Int.reduceLE, reduceCtorEq]
    · simp only [go_sem, Int.reduceTMod, Int.reduceTDiv, Int.reduceDiv, Int.reduceMod, Int.reduceAdd, Int.reduceSub, Int.reduceMul, Int.reduceNeg, Int.reducePow, Int.reduceEq, ↓reduceIte, Nat.reduceEqDiff, Nat.reduceAdd, Nat.reduceMul, Nat.reduceLeDiff, Nat.reduceSub, Nat.reduceLT, Int.reduceToNat, Int.reduceLT, Int.reduceLE, reduceCtorEq]
    · simp only [go_sem, Int.reduceTMod, Int.reduceTDiv, Int.reduceDiv, Int.reduceMod, Int.reduceAdd, Int.reduceSub, Int.reduceMul, Int.reduceNeg, Int.reducePow, Int.reduceEq, ↓reduceIte, Nat.reduceEqDiff, Nat.reduceAdd, Nat.reduceMul, Nat.reduceLeDiff, Nat.reduceSub, Nat.reduceLT, Int.reduceToNat, Int.reduceLT, Int.reduceLE, reduceCtorEq]
    · simp only; omega
    · exact hf1
    · simp only [List.take_zero, List.flatten_nil, go_sem, Int.reduceTMod, Int.reduceTDiv, Int.reduceDiv, Int.reduceMod, Int.reduceAdd, Int.reduceSub, Int.reduceMul, Int.reduceNeg, Int.reducePow, Int.reduceEq, ↓reduceIte, Nat.reduceEqDiff, Nat.reduceAdd, Nat.reduceMul, Nat.reduceLeDiff, Nat.reduceSub, Nat.reduceLT, Int.reduceToNat, Int.reduceLT, Int.reduceLE, reduceCtorEq]
      exact hG
  · simp only [go_sem, Int.reduceTMod, Int.reduceTDiv, Int.reduceDiv, Int.reduceMod, Int.reduceAdd, Int.reduceSub, Int.reduceMul, Int.reduceNeg, Int.reducePow, Int.reduceEq, ↓reduceIte, Nat.reduceEqDiff, Nat.reduceAdd, Nat.reduceMul, Nat.reduceLeDiff, Nat.reduceSub, Nat.reduceLT, Int.reduceToNat, Int.reduceLT, Int.reduceLE, reduceCtorEq]
  · simp only [go_sem, Int.reduceTMod, Int.reduceTDiv, Int.reduceDiv, Int.reduceMod, Int.reduceAdd, Int.reduceSub, Int.reduceMul, Int.reduceNeg, Int.reducePow, Int.reduceEq, ↓reduceIte, Nat.reduceEqDiff, Nat.reduceAdd, Nat.reduceMul, Nat.reduceLeDiff, Nat.reduceSub, Nat.reduceLT, Int.reduceToNat, Int.reduceLT, Int.reduceLE, reduceCtorEq]
  · simp only [go_sem, Int.reduceTMod, Int.reduceTDiv, Int.reduceDiv, Int.reduceMod, Int.reduceAdd, Int.reduceSub, Int.reduceMul, Int.reduceNeg, Int.reducePow, Int.reduceEq, ↓reduceIte, Nat.reduceEqDiff, Nat.reduceAdd, Nat.reduceMul, Nat.reduceLeDiff, Nat.reduceSub, Nat.reduceLT, Int.reduceToNat, Int.reduceLT, Int.reduceLE, reduceCtorEq]
  · simp only [go_sem, Int.reduceTMod, Int.reduceTDiv, Int.reduceDiv, Int.reduceMod, Int.reduceAdd, Int.reduceSub, Int.reduceMul, Int.reduceNeg, Int.reducePow, Int.reduceEq, ↓reduceIte, Nat.reduceEqDiff, Nat.reduceAdd, Nat.reduceMul, Nat.reduceLeDiff, Nat.reduceSub, Nat.reduceLT, Int.reduceToNat, Int.reduceLT, Int.reduceLE, reduceCtorEq]
  · simp only [List.take_zero, List.flatten_nil, List.length_nil, go_sem, Int.reduceTMod, Int.reduceTDiv, Int.reduceDiv, Int.reduceMod, Int.reduceAdd, Int.reduceSub, Int.reduceMul, Int.reduceNeg, Int.reducePow, Int.reduceEq, ↓reduceIte, Nat.reduceEqDiff, Nat.reduceAdd, Nat.reduceMul, Nat.reduceLeDiff, Nat.reduceSub, Nat.reduceLT, Int.reduceToNat, Int.reduceLT, Int.reduceLE, reduceCtorEq]
end Go.Proofs.YtpleidpbapgmiaaDoor.Sy
