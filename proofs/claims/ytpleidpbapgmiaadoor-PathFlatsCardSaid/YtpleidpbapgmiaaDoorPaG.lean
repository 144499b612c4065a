/- Boxes; rows put together, cloned, with a part replaced. Conditions: those that each theorem names. -/
import Derived.Test.YtpleidpbapgmiaaDoorPaE
namespace Go.Proofs.YtpleidpbapgmiaaDoor.Sy
open Go Go.Proofs
set_option linter.unusedSimpArgs false
set_option linter.unusedVariables false
set_option maxRecDepth 20000
attribute [local go_sem] XK_seq XK_block XK_skip XK_exit XK_ret XK_cond XK_reg XK_dreg XK_ureg KN_seq KN_blk KN_lp KN_chk KN_chku KN_top KN_fin KX_seq KX_lp KX_blk KX_chk KX_top KR_seq KR_blk KR_lp KR_chk KR_top KR_fin FK_true FK_false RK_nil RK_mv RK_pick RK_alloc RK_box RK_build RK_bslice RK_load1 RK_loadA RK_store RK_nilchk RK_bin RK_beq RK_eqv RK_eqnil RK_un RK_conv RK_mkfn RK_mkslice RK_slS RK_slA RK_fadr RK_fld RK_iadrA RK_iadrS RK_idxA RK_ext RK_lenC RK_cap RK_app RK_appz RK_cpy RK_mn RK_mx RK_len RK_carry RK_clr carryR um0 um1 ThenK_some RK_guard GK_tt GK_ff GK_tf GK_ft GK_none QK_some RK_callQ RK_callZ RK_callT TK_some VK_clo RK_callV
  evalOp evO evOs upd_at unfrz_at putE_some putE_none boolOf_b boolOf_tup Option.map_some evRes pack_one pack_two pack_three pack_none List.getD_cons_zero List.getD_cons_succ getD_nil
  Option.some.injEq exists_eq_left' Reg.cs? fillC setL List.set_cons_zero List.set_cons_succ List.length_cons List.length_nil rd_upd rd_updn rdB wr List.drop_zero List.drop_succ_cons List.take_succ_cons List.take_zero List.getElem?_cons_zero List.getElem?_cons_succ
  ix Int.toNat_zero lenO_sl lenO_nil nadd na_eq na_eq' na_lt na_ee na_ll na_ne na_ne' na_tt
attribute [local go_sem] Reg.flat_one Reg.flat_agg Reg.flat_tup flats_nil flats_cons Cell.flat_sc Cell.flat_ptr List.all_cons List.all_nil disOk safeOk safeR decide_eq_true_eq decide_eq_false_iff_not
  List.map_cons List.map_nil List.cons_append List.nil_append List.append_nil evalOp.capsOf Bool.false_bne Bool.bne_false Bool.true_bne Bool.bne_true bne_self_eq_false beq_self_eq_true Bool.not_not Bool.false_and Bool.and_false Bool.true_or Bool.or_true beq_iff_eq eqCells
  Bool.true_beq Bool.false_beq Bool.not_eq_true' Bool.not_eq_eq_eq_not Bool.not_eq_false' and_false false_and frz_at idOf noId Option.isSome_some Bool.and_eq_true
attribute [local go_sem] wr_eq bV_add bV_sub bV_mul bV_eql bV_neq bV_lss bV_leq bV_gtr bV_geq bV_quo bV_rem bV_shr bV_shl uV_not uV_neg wrapU bits_and bits_or bits_xor IntKind.bits Nat.min_eq_left Nat.min_eq_right Nat.min_self
attribute [local go_sem] bne_iff_ne Int.cast_ofNat_Int Nat.zero_add Nat.add_zero and_self and_true true_and ne_eq not_false_eq_true not_true_eq_false decide_true decide_false Bool.false_eq_true Bool.not_true Bool.not_false Bool.true_and Bool.and_true Bool.or_false Bool.false_or Bool.and_self

structure Bx where
  x0 : Int
  y0 : Int
  x1 : Int
  y1 : Int
abbrev Bx.cs (b : Bx) : List Cell := [I b.x0, I b.y0, I b.x1, I b.y1]
abbrev Bx.r (b : Bx) : Reg := .agg [I b.x0, I b.y0, I b.x1, I b.y1]
def Bx.emp (b : Bx) : Bool := decide (b.x1 ≤ b.x0) || decide (b.y1 ≤ b.y0)
def Bx.has (b : Bx) (p : Pt) : Bool := decide (b.x0 ≤ p.x) && (decide (p.x < b.x1) && (decide (b.y0 ≤ p.y) && decide (p.y < b.y1)))
def Bx.join (b c : Bx) : Bx := if b.emp = true ∧ c.emp = true then ⟨0, 0, 0, 0⟩ else if b.emp = true then c else if c.emp = true then b else ⟨mnI b.x0 c.x0, mnI b.y0 c.y0, mxI b.x1 c.x1, mxI b.y1 c.y1⟩
theorem v_BEmpty (a b c d : Int) (m : Mem) (n : Nat) : callF TA 61 [.agg [I a, I b, I c, I d]] m n = some (RB (decide (c ≤ a) || decide (d ≤ b))) := by
  refine callF_of (Fn_ofK (fn := F61) rfl (by simp [F61]) ?_)
  by_cases h : c ≤ a
  · skip
    try simp only [r61_0, r61_1, c61, F61, h, Bool.true_or, go_sem, Int.reduceTMod, Int.reduceTDiv, Int.reduceDiv, Int.reduceMod, Int.reduceAdd, Int.reduceSub, Int.reduceMul, Int.reduceNeg, Int.reducePow, Int.reduceEq, ↓reduceIte, Nat.reduceEqDiff, Nat.reduceAdd, Nat.reduceMul, Nat.reduceLeDiff, Nat.reduceSub, Nat.reduceLT, Int.reduceToNat, Int.reduceLT, Int.reduceLE, reduceCtorEq]
    repeat' ((first | refine FK_split (fun h_ => ?_) (fun h_ => ?_) | refine GK_split (fun h_ => ?_) (fun h_ => ?_) | refine ite_both (fun h_ => ?_) (fun h_ => ?_)) <;> (try simp only [decide_eq_true_eq, decide_eq_false_iff_not, Bool.not_true, Bool.not_false, Bool.not_eq_true', Bool.not_eq_false', Bool.not_eq_eq_eq_not, Decidable.not_not] at h_) <;> (try simp only [r61_0, r61_1, c61, F61, h, Bool.true_or, h_, go_sem, Int.reduceTMod, Int.reduceTDiv, Int.reduceDiv, Int.reduceMod, Int.reduceAdd, Int.reduceSub, Int.reduceMul, Int.reduceNeg, Int.reducePow, Int.reduceEq, ↓reduceIte, Nat.reduceEqDiff, Nat.reduceAdd, Nat.reduceMul, Nat.reduceLeDiff, Nat.reduceSub, Nat.reduceLT, Int.reduceToNat, Int.reduceLT, Int.reduceLE, reduceCtorEq]))
  · skip
    try simp only [r61_0, r61_1, c61, F61, h, Bool.false_or, go_sem, Int.reduceTMod, Int.reduceTDiv, Int.reduceDiv, Int.reduceMod, Int.reduceAdd, Int.reduceSub, Int.reduceMul, Int.reduceNeg, Int.reducePow, Int.reduceEq, ↓reduceIte, Nat.reduceEqDiff, Nat.reduceAdd, Nat.reduceMul, Nat.reduceLeDiff, Nat.reduceSub, Nat.reduceLT, Int.reduceToNat, Int.reduceLT, Int.reduceLE, reduceCtorEq]
    repeat' ((first | refine FK_split (fun h_ => ?_) (fun h_ => ?_) | refine GK_split (fun h_ => ?_) (fun h_ => ?_) | refine ite_both (fun h_ => ?_) (fun h_ => ?_)) <;> (try simp only [decide_eq_true_eq, decide_eq_false_iff_not, Bool.not_true, Bool.not_false, Bool.not_eq_true', Bool.not_eq_false', Bool.not_eq_eq_eq_not, Decidable.not_not] at h_) <;> (try simp only [r61_0, r61_1, c61, F61, h, Bool.false_or, h_, go_sem, Int.reduceTMod, Int.reduceTDiv, Int.reduceDiv, Int.reduceMod, Int.reduceAdd, Int.reduceSub, Int.reduceMul, Int.reduceNeg, Int.reducePow, Int.reduceEq, ↓reduceIte, Nat.reduceEqDiff, Nat.reduceAdd, Nat.reduceMul, Nat.reduceLeDiff, Nat.reduceSub, Nat.reduceLT, Int.reduceToNat, Int.reduceLT, Int.reduceLE, reduceCtorEq]))
theorem v_BJoin (b c : Bx) (m : Mem) (n : Nat) : callF TA 51 [.agg [I b.x0, I b.y0, I b.x1, I b.y1], .agg [I c.x0, I c.y0, I c.x1, I c.y1]] m n = some (b.join c).r := by
  refine callF_of (Fn_ofK (fn := F51) rfl (by simp [F51]) ?_)
  have eb : b.emp = (decide (b.x1 ≤ b.x0) || decide (b.y1 ≤ b.y0)) := rfl
  have ec : c.emp = (decide (c.x1 ≤ c.x0) || decide (c.y1 ≤ c.y0)) := rfl
  have vb := v_BEmpty b.x0 b.y0 b.x1 b.y1
  have vc := v_BEmpty c.x0 c.y0 c.x1 c.y1
  rw [← eb] at vb
  rw [← ec] at vc
  unfold Bx.join
  cases hb : b.emp <;> cases hc : c.emp <;> rw [hb] at vb <;> rw [hc] at vc
  · skip
    try simp only [r51_0, r51_1, r51_2, r51_3, r51_4, r51_5, r51_6, r51_7, c51, F51, vb, vc, minI_two, maxI_two, go_sem, Int.reduceTMod, Int.reduceTDiv, Int.reduceDiv, Int.reduceMod, Int.reduceAdd, Int.reduceSub, Int.reduceMul, Int.reduceNeg, Int.reducePow, Int.reduceEq, ↓reduceIte, Nat.reduceEqDiff, Nat.reduceAdd, Nat.reduceMul, Nat.reduceLeDiff, Nat.reduceSub, Nat.reduceLT, Int.reduceToNat, Int.reduceLT, Int.reduceLE, reduceCtorEq]
    repeat' ((first | refine FK_split (fun h_ => ?_) (fun h_ => ?_) | refine GK_split (fun h_ => ?_) (fun h_ => ?_) | refine ite_both (fun h_ => ?_) (fun h_ => ?_)) <;> (try simp only [decide_eq_true_eq, decide_eq_false_iff_not, Bool.not_true, Bool.not_false, Bool.not_eq_true', Bool.not_eq_false', Bool.not_eq_eq_eq_not, Decidable.not_not] at h_) <;> (try simp only [r51_0, r51_1, r51_2, r51_3, r51_4, r51_5, r51_6, r51_7, c51, F51, vb, vc, minI_two, maxI_two, h_, go_sem, Int.reduceTMod, Int.reduceTDiv, Int.reduceDiv, Int.reduceMod, Int.reduceAdd, Int.reduceSub, Int.reduceMul, Int.reduceNeg, Int.reducePow, Int.reduceEq, ↓reduceIte, Nat.reduceEqDiff, Nat.reduceAdd, Nat.reduceMul, Nat.reduceLeDiff, Nat.reduceSub, Nat.reduceLT, Int.reduceToNat, Int.reduceLT, Int.reduceLE, reduceCtorEq]))
  · skip
    try simp only [r51_0, r51_1, r51_2, r51_3, r51_4, r51_5, r51_6, r51_7, c51, F51, vb, vc, minI_two, maxI_two, go_sem, Int.reduceTMod, Int.reduceTDiv, Int.reduceDiv, Int.reduceMod, Int.reduceAdd, Int.reduceSub, Int.reduceMul, Int.reduceNeg, Int.reducePow, Int.reduceEq, ↓reduceIte, Nat.reduceEqDiff, Nat.reduceAdd, Nat.reduceMul, Nat.reduceLeDiff, Nat.reduceSub, Nat.reduceLT, Int.reduceToNat, Int.reduceLT, Int.reduceLE, reduceCtorEq]
    repeat' ((first | refine FK_split (fun h_ => ?_) (fun h_ => ?_) | refine GK_split (fun h_ => ?_) (fun h_ => ?_) | refine ite_both (fun h_ => ?_) (fun h_ => ?_)) <;> (try simp only [decide_eq_true_eq, decide_eq_false_iff_not, Bool.not_true, Bool.not_false, Bool.not_eq_true', Bool.not_eq_false', Bool.not_eq_eq_eq_not, Decidable.not_not] at h_) <;> (try simp only [r51_0, r51_1, r51_2, r51_3, r51_4, r51_5, r51_6, r51_7, c51, F51, vb, vc, minI_two, maxI_two, h_, go_sem, Int.reduceTMod, Int.reduceTDiv, Int.reduceDiv, Int.reduceMod, Int.reduceAdd, Int.reduceSub, Int.reduceMul, Int.reduceNeg, Int.reducePow, Int.reduceEq, ↓reduceIte, Nat.reduceEqDiff, Nat.reduceAdd, Nat.reduceMul, Nat.reduceLeDiff, Nat.reduceSub, Nat.reduceLT, Int.reduceToNat, Int.reduceLT, Int.reduceLE, reduceCtorEq]))
  · skip
    try simp only [r51_0, r51_1, r51_2, r51_3, r51_4, r51_5, r51_6, r51_7, c51, F51, vb, vc, minI_two, maxI_two, go_sem, Int.reduceTMod, Int.reduceTDiv, Int.reduceDiv, Int.reduceMod, Int.reduceAdd, Int.reduceSub, Int.reduceMul, Int.reduceNeg, Int.reducePow, Int.reduceEq, ↓reduceIte, Nat.reduceEqDiff, Nat.reduceAdd, Nat.reduceMul, Nat.reduceLeDiff, Nat.reduceSub, Nat.reduceLT, Int.reduceToNat, Int.reduceLT, Int.reduceLE, reduceCtorEq]
    repeat' ((first | refine FK_split (fun h_ => ?_) (fun h_ => ?_) | refine GK_split (fun h_ => ?_) (fun h_ => ?_) | refine ite_both (fun h_ => ?_) (fun h_ => ?_)) <;> (try simp only [decide_eq_true_eq, decide_eq_false_iff_not, Bool.not_true, Bool.not_false, Bool.not_eq_true', Bool.not_eq_false', Bool.not_eq_eq_eq_not, Decidable.not_not] at h_) <;> (try simp only [r51_0, r51_1, r51_2, r51_3, r51_4, r51_5, r51_6, r51_7, c51, F51, vb, vc, minI_two, maxI_two, h_, go_sem, Int.reduceTMod, Int.reduceTDiv, Int.reduceDiv, Int.reduceMod, Int.reduceAdd, Int.reduceSub, Int.reduceMul, Int.reduceNeg, Int.reducePow, Int.reduceEq, ↓reduceIte, Nat.reduceEqDiff, Nat.reduceAdd, Nat.reduceMul, Nat.reduceLeDiff, Nat.reduceSub, Nat.reduceLT, Int.reduceToNat, Int.reduceLT, Int.reduceLE, reduceCtorEq]))
  · skip
    try simp only [r51_0, r51_1, r51_2, r51_3, r51_4, r51_5, r51_6, r51_7, c51, F51, vb, vc, minI_two, maxI_two, go_sem, Int.reduceTMod, Int.reduceTDiv, Int.reduceDiv, Int.reduceMod, Int.reduceAdd, Int.reduceSub, Int.reduceMul, Int.reduceNeg, Int.reducePow, Int.reduceEq, ↓reduceIte, Nat.reduceEqDiff, Nat.reduceAdd, Nat.reduceMul, Nat.reduceLeDiff, Nat.reduceSub, Nat.reduceLT, Int.reduceToNat, Int.reduceLT, Int.reduceLE, reduceCtorEq]
    repeat' ((first | refine FK_split (fun h_ => ?_) (fun h_ => ?_) | refine GK_split (fun h_ => ?_) (fun h_ => ?_) | refine ite_both (fun h_ => ?_) (fun h_ => ?_)) <;> (try simp only [decide_eq_true_eq, decide_eq_false_iff_not, Bool.not_true, Bool.not_false, Bool.not_eq_true', Bool.not_eq_false', Bool.not_eq_eq_eq_not, Decidable.not_not] at h_) <;> (try simp only [r51_0, r51_1, r51_2, r51_3, r51_4, r51_5, r51_6, r51_7, c51, F51, vb, vc, minI_two, maxI_two, h_, go_sem, Int.reduceTMod, Int.reduceTDiv, Int.reduceDiv, Int.reduceMod, Int.reduceAdd, Int.reduceSub, Int.reduceMul, Int.reduceNeg, Int.reducePow, Int.reduceEq, ↓reduceIte, Nat.reduceEqDiff, Nat.reduceAdd, Nat.reduceMul, Nat.reduceLeDiff, Nat.reduceSub, Nat.reduceLT, Int.reduceToNat, Int.reduceLT, Int.reduceLE, reduceCtorEq]))
/-- The bound of points. -/
def bndL (l : List Pt) : Bx := l.foldl (fun b p => b.join ⟨p.x, p.y, p.x + 1, p.y + 1⟩) ⟨0, 0, 0, 0⟩
theorem bnd_spec (l : List Pt) (hl : l.all inP = true) : (l ≠ [] → (bndL l).emp = false) ∧ (∀ p ∈ l, ((bndL l).x0 ≤ p.x ∧ p.x < (bndL l).x1) ∧ (bndL l).y0 ≤ p.y ∧ p.y < (bndL l).y1) ∧
    ((-2147483648 ≤ (bndL l).x0 ∧ (bndL l).x1 ≤ 2147483649) ∧ -2147483648 ≤ (bndL l).y0 ∧ (bndL l).y1 ≤ 2147483649) := by
  suffices H : ∀ (k : List Pt), k.all inP = true → ∀ (b : Bx) (s : List Pt), ((s = [] → b = ⟨0, 0, 0, 0⟩) ∧ (s ≠ [] → b.emp = false) ∧ (∀ p ∈ s, (b.x0 ≤ p.x ∧ p.x < b.x1) ∧ b.y0 ≤ p.y ∧ p.y < b.y1) ∧ ((-2147483648 ≤ b.x0 ∧ b.x1 ≤ 2147483649) ∧ -2147483648 ≤ b.y0 ∧ b.y1 ≤ 2147483649)) →
      let r := k.foldl (fun b p => b.join ⟨p.x, p.y, p.x + 1, p.y + 1⟩) b
      (s ++ k ≠ [] → r.emp = false) ∧ (∀ p ∈ s ++ k, (r.x0 ≤ p.x ∧ p.x < r.x1) ∧ r.y0 ≤ p.y ∧ p.y < r.y1) ∧ ((-2147483648 ≤ r.x0 ∧ r.x1 ≤ 2147483649) ∧ -2147483648 ≤ r.y0 ∧ r.y1 ≤ 2147483649) by
    have := H l hl ⟨0, 0, 0, 0⟩ [] ⟨fun _ => rfl, fun h => absurd rfl h, fun p hp => (by cases hp), by simp⟩
    simpa [bndL] using this
  intro k
  induction k with
  | nil =>
    intro _ b s ⟨h1, h2, h3, h4⟩
    simp only [List.foldl_nil, List.append_nil]
    exact ⟨h2, h3, h4⟩
  | cons p k ih =>
    intro hk b s ⟨h1, h2, h3, h4⟩
    rw [List.all_cons, Bool.and_eq_true] at hk
    have ip : inP ⟨p.x, p.y⟩ = true := hk.1
    simp only [inP, Bool.and_eq_true, rm_iff] at ip
    have hu : (Bx.mk p.x p.y (p.x + 1) (p.y + 1)).emp = false := by
      unfold Bx.emp
      rw [Bool.or_eq_false_iff]
      exact ⟨decide_eq_false (by simp only; omega), decide_eq_false (by simp only; omega)⟩
    have key := ih hk.2 (b.join ⟨p.x, p.y, p.x + 1, p.y + 1⟩) (s ++ [p]) ?_
    · simp only [List.foldl_cons]
      rw [List.append_assoc] at key
      exact key
    · refine ⟨fun h => by simp at h, ?_⟩
      by_cases hs : s = []
      · have hb := h1 hs
        have he : b.emp = true := by rw [hb]; rfl
        have hj : b.join ⟨p.x, p.y, p.x + 1, p.y + 1⟩ = ⟨p.x, p.y, p.x + 1, p.y + 1⟩ := by
          unfold Bx.join
          rw [hu, he]
          simp
        rw [hj, hs]
        refine ⟨fun _ => hu, fun q hq => ?_, by simp only; omega⟩
        simp at hq
        subst hq
        simp only
        omega
      · have he := h2 hs
        have hj : b.join ⟨p.x, p.y, p.x + 1, p.y + 1⟩ = ⟨mnI b.x0 p.x, mnI b.y0 p.y, mxI b.x1 (p.x + 1), mxI b.y1 (p.y + 1)⟩ := by
          unfold Bx.join
          rw [hu, he]
          simp
        rw [hj]
        have m1 : mnI b.x0 p.x ≤ b.x0 ∧ mnI b.x0 p.x ≤ p.x ∧ (mnI b.x0 p.x = b.x0 ∨ mnI b.x0 p.x = p.x) := by unfold mnI; split <;> omega
        have m2 : mnI b.y0 p.y ≤ b.y0 ∧ mnI b.y0 p.y ≤ p.y ∧ (mnI b.y0 p.y = b.y0 ∨ mnI b.y0 p.y = p.y) := by unfold mnI; split <;> omega
        have m3 : b.x1 ≤ mxI b.x1 (p.x + 1) ∧ p.x + 1 ≤ mxI b.x1 (p.x + 1) ∧ (mxI b.x1 (p.x + 1) = b.x1 ∨ mxI b.x1 (p.x + 1) = p.x + 1) := by unfold mxI; split <;> omega
        have m4 : b.y1 ≤ mxI b.y1 (p.y + 1) ∧ p.y + 1 ≤ mxI b.y1 (p.y + 1) ∧ (mxI b.y1 (p.y + 1) = b.y1 ∨ mxI b.y1 (p.y + 1) = p.y + 1) := by unfold mxI; split <;> omega
        refine ⟨fun _ => ?_, fun q hq => ?_, by simp only; omega⟩
        · unfold Bx.emp
          rw [Bool.or_eq_false_iff]
          exact ⟨decide_eq_false (by simp only; omega), decide_eq_false (by simp only; omega)⟩
        · rw [List.mem_append, List.mem_singleton] at hq
          rcases hq with hq | rfl
          · have := h3 q hq
            simp only
            omega
          · simp only
            omega
theorem bnd_snoc (l : List Pt) (p : Pt) : bndL (l ++ [p]) = (bndL l).join ⟨p.x, p.y, p.x + 1, p.y + 1⟩ := by
  unfold bndL
  rw [List.foldl_append]
  rfl
theorem v_Bound (r : Reg) (l : List Pt) (m : Mem) (n : Nat) (hr : RPt m n r l) (hl : l.length < 4294967296) (hi : l.all inP = true) : callF TA 27 [r] m n = some (bndL l).r := by
  refine callF_of (Fn_ofK (fn := F27) rfl (by simp [F27]) ?_)
  have hlen := hr.len
  try simp only [r27_0, r27_1, r27_2, r27_3, r27_4, r27_5, r27_6, r27_7, c27, F27, hlen, go_sem, Int.reduceTMod, Int.reduceTDiv, Int.reduceDiv, Int.reduceMod, Int.reduceAdd, Int.reduceSub, Int.reduceMul, Int.reduceNeg, Int.reducePow, Int.reduceEq, ↓reduceIte, Nat.reduceEqDiff, Nat.reduceAdd, Nat.reduceMul, Nat.reduceLeDiff, Nat.reduceSub, Nat.reduceLT, Int.reduceToNat, Int.reduceLT, Int.reduceLE, reduceCtorEq]
  repeat' ((first | refine FK_split (fun h_ => ?_) (fun h_ => ?_) | refine GK_split (fun h_ => ?_) (fun h_ => ?_) | refine ite_both (fun h_ => ?_) (fun h_ => ?_)) <;> (try simp only [decide_eq_true_eq, decide_eq_false_iff_not, Bool.not_true, Bool.not_false, Bool.not_eq_true', Bool.not_eq_false', Bool.not_eq_eq_eq_not, Decidable.not_not] at h_) <;> (try simp only [r27_0, r27_1, r27_2, r27_3, r27_4, r27_5, r27_6, r27_7, c27, F27, hlen, h_, go_sem, Int.reduceTMod, Int.reduceTDiv, Int.reduceDiv, Int.reduceMod, Int.reduceAdd, Int.reduceSub, Int.reduceMul, Int.reduceNeg, Int.reducePow, Int.reduceEq, ↓reduceIte, Nat.reduceEqDiff, Nat.reduceAdd, Nat.reduceMul, Nat.reduceLeDiff, Nat.reduceSub, Nat.reduceLT, Int.reduceToNat, Int.reduceLT, Int.reduceLE, reduceCtorEq]))
  refine XK_iter (inv := fun i s => s.e 8 = RI i ∧ s.e 7 = RI l.length ∧ s.e 6 = r ∧ s.e 2 = .one (.ptr n 0) ∧ s.e 3 = .one (.ptr (n + 1) 0) ∧ n + 2 ≤ s.n ∧ (∀ id, id < n → s.m id = m id) ∧ s.m n = some ⟨[I 0, I 0, I 0, I 0], true⟩ ∧ s.m (n + 1) = some ⟨(bndL (l.take i)).cs, true⟩) l.length
    (fun L _ => ⟨fun i hi' s hs next => ?_, fun s hs => ?_⟩) 0 (by omega) _ ?_
  · obtain ⟨e, M, N⟩ := s
    obtain ⟨q8, q7, q6, q2, q3, qn, qm, qb, qx⟩ := hs
    simp only at q8 q7 q6 q2 q3 qn qm qb qx
    have hp : l[i]? = some l[i] := List.getElem?_eq_getElem hi'
    have hr2 : RPt M N r l := hr.keep (by omega) qm
    obtain ⟨id, off, cap, hr1, hid, hrd⟩ := hr2.at cs2 hp
    have ip : inP ⟨l[i].x, l[i].y⟩ = true := List.all_eq_true.1 hi _ (List.getElem_mem hi')
    have hsn : bndL (l.take (i + 1)) = _ := (congrArg bndL (take_snoc hp)).trans (bnd_snoc _ _)
    generalize l[i] = p at *
    simp only [inP, Bool.and_eq_true, rm_iff] at ip
    have c2 : ((i : Int) < (l.length : Int)) = True := eq_true (by omega)
    have c3 : (0 ≤ (i : Int)) = True := eq_true (by omega)
    have c7 : IntKind.i64.wrap ((i : Int) + 1) = ((i + 1 : Nat) : Int) := wr_nat (by omega)
    have w1 : IntKind.i64.wrap (p.x + 1) = p.x + 1 := wr_eq (by omega) (by omega)
    have w2 : IntKind.i64.wrap (p.y + 1) = p.y + 1 := wr_eq (by omega) (by omega)
    have vj := v_BJoin (bndL (l.take i)) ⟨p.x, p.y, p.x + 1, p.y + 1⟩
    rw [← hsn] at vj
    generalize bndL (l.take (i + 1)) = B1 at *
    generalize bndL (l.take i) = B0 at *
    rw [hr1] at q6
    have n1 := na_0 hid
    have n2 := na_0 (show n + 1 < N by omega)
    have n3 := na_0 (show n < N by omega)
    try simp only [r27_0, r27_1, r27_2, r27_3, r27_4, r27_5, r27_6, r27_7, c27, F27, l27_0, q8, q7, q6, q2, q3, c2, c3, c7, hrd, n1, n2, n3, w1, w2, qx, rd_of qx, vj, Int.toNat_natCast, go_sem, Int.reduceTMod, Int.reduceTDiv, Int.reduceDiv, Int.reduceMod, Int.reduceAdd, Int.reduceSub, Int.reduceMul, Int.reduceNeg, Int.reducePow, Int.reduceEq, ↓reduceIte, Nat.reduceEqDiff, Nat.reduceAdd, Nat.reduceMul, Nat.reduceLeDiff, Nat.reduceSub, Nat.reduceLT, Int.reduceToNat, Int.reduceLT, Int.reduceLE, reduceCtorEq]
    repeat' ((first | refine FK_split (fun h_ => ?_) (fun h_ => ?_) | refine GK_split (fun h_ => ?_) (fun h_ => ?_) | refine ite_both (fun h_ => ?_) (fun h_ => ?_)) <;> (try simp only [decide_eq_true_eq, decide_eq_false_iff_not, Bool.not_true, Bool.not_false, Bool.not_eq_true', Bool.not_eq_false', Bool.not_eq_eq_eq_not, Decidable.not_not] at h_) <;> (try simp only [r27_0, r27_1, r27_2, r27_3, r27_4, r27_5, r27_6, r27_7, c27, F27, l27_0, q8, q7, q6, q2, q3, c2, c3, c7, hrd, n1, n2, n3, w1, w2, qx, rd_of qx, vj, Int.toNat_natCast, h_, go_sem, Int.reduceTMod, Int.reduceTDiv, Int.reduceDiv, Int.reduceMod, Int.reduceAdd, Int.reduceSub, Int.reduceMul, Int.reduceNeg, Int.reducePow, Int.reduceEq, ↓reduceIte, Nat.reduceEqDiff, Nat.reduceAdd, Nat.reduceMul, Nat.reduceLeDiff, Nat.reduceSub, Nat.reduceLT, Int.reduceToNat, Int.reduceLT, Int.reduceLE, reduceCtorEq]))
    refine next _ ⟨?_, ?_, ?_, ?_, ?_, ?_, fun id hid => ?_, ?_, ?_⟩
    · simp only [go_sem, Int.reduceTMod, Int.reduceTDiv, Int.reduceDiv, Int.reduceMod, Int.reduceAdd, Int.reduceSub, Int.reduceMul, Int.reduceNeg, Int.reducePow, Int.reduceEq, ↓reduceIte, Nat.reduceEqDiff, Nat.reduceAdd, Nat.reduceMul, Nat.reduceLeDiff, Nat.reduceSub, Nat.reduceLT, Int.reduceToNat, Int.reduceLT, Int.reduceLE, reduceCtorEq]
    · simp only [q7, go_sem, Int.reduceTMod, Int.reduceTDiv, Int.reduceDiv, Int.reduceMod, Int.reduceAdd, Int.reduceSub, Int.reduceMul, Int.reduceNeg, Int.reducePow, Int.reduceEq, ↓reduceIte, Nat.reduceEqDiff, Nat.reduceAdd, Nat.reduceMul, Nat.reduceLeDiff, Nat.reduceSub, Nat.reduceLT, Int.reduceToNat, Int.reduceLT, Int.reduceLE, reduceCtorEq]
    · simp only [q6, hr1, go_sem, Int.reduceTMod, Int.reduceTDiv, Int.reduceDiv, Int.reduceMod, Int.reduceAdd, Int.reduceSub, Int.reduceMul, Int.reduceNeg, Int.reducePow, Int.reduceEq, ↓reduceIte, Nat.reduceEqDiff, Nat.reduceAdd, Nat.reduceMul, Nat.reduceLeDiff, Nat.reduceSub, Nat.reduceLT, Int.reduceToNat, Int.reduceLT, Int.reduceLE, reduceCtorEq]
    · simp only [q2, go_sem, Int.reduceTMod, Int.reduceTDiv, Int.reduceDiv, Int.reduceMod, Int.reduceAdd, Int.reduceSub, Int.reduceMul, Int.reduceNeg, Int.reducePow, Int.reduceEq, ↓reduceIte, Nat.reduceEqDiff, Nat.reduceAdd, Nat.reduceMul, Nat.reduceLeDiff, Nat.reduceSub, Nat.reduceLT, Int.reduceToNat, Int.reduceLT, Int.reduceLE, reduceCtorEq]
    · simp only [q3, go_sem, Int.reduceTMod, Int.reduceTDiv, Int.reduceDiv, Int.reduceMod, Int.reduceAdd, Int.reduceSub, Int.reduceMul, Int.reduceNeg, Int.reducePow, Int.reduceEq, ↓reduceIte, Nat.reduceEqDiff, Nat.reduceAdd, Nat.reduceMul, Nat.reduceLeDiff, Nat.reduceSub, Nat.reduceLT, Int.reduceToNat, Int.reduceLT, Int.reduceLE, reduceCtorEq]
    · simp only [go_sem, Int.reduceTMod, Int.reduceTDiv, Int.reduceDiv, Int.reduceMod, Int.reduceAdd, Int.reduceSub, Int.reduceMul, Int.reduceNeg, Int.reducePow, Int.reduceEq, ↓reduceIte, Nat.reduceEqDiff, Nat.reduceAdd, Nat.reduceMul, Nat.reduceLeDiff, Nat.reduceSub, Nat.reduceLT, Int.reduceToNat, Int.reduceLT, Int.reduceLE, reduceCtorEq]
      omega
    · simp only [na_0 (show id < N by omega), na_ne (show id < N by omega), go_sem, Int.reduceTMod, Int.reduceTDiv, Int.reduceDiv, Int.reduceMod, Int.reduceAdd, Int.reduceSub, Int.reduceMul, Int.reduceNeg, Int.reducePow, Int.reduceEq, ↓reduceIte, Nat.reduceEqDiff, Nat.reduceAdd, Nat.reduceMul, Nat.reduceLeDiff, Nat.reduceSub, Nat.reduceLT, Int.reduceToNat, Int.reduceLT, Int.reduceLE, reduceCtorEq]
      rw [if_neg (show ¬ id = n + 1 by omega)]
      exact qm id hid
    · simp only [qb, go_sem, Int.reduceTMod, Int.reduceTDiv, Int.reduceDiv, Int.reduceMod, Int.reduceAdd, Int.reduceSub, Int.reduceMul, Int.reduceNeg, Int.reducePow, Int.reduceEq, ↓reduceIte, Nat.reduceEqDiff, Nat.reduceAdd, Nat.reduceMul, Nat.reduceLeDiff, Nat.reduceSub, Nat.reduceLT, Int.reduceToNat, Int.reduceLT, Int.reduceLE, reduceCtorEq]
      rw [if_neg (show ¬ n = N by omega), if_neg (show ¬ n = N by omega)]
    · simp only [go_sem, Int.reduceTMod, Int.reduceTDiv, Int.reduceDiv, Int.reduceMod, Int.reduceAdd, Int.reduceSub, Int.reduceMul, Int.reduceNeg, Int.reducePow, Int.reduceEq, ↓reduceIte, Nat.reduceEqDiff, Nat.reduceAdd, Nat.reduceMul, Nat.reduceLeDiff, Nat.reduceSub, Nat.reduceLT, Int.reduceToNat, Int.reduceLT, Int.reduceLE, reduceCtorEq]
  · obtain ⟨e, M, N⟩ := s
    obtain ⟨q8, q7, q6, q2, q3, qn, qm, qb, qx⟩ := hs
    simp only at q8 q7 q6 q2 q3 qn qm qb qx
    have c2 : ((l.length : Int) < (l.length : Int)) = False := eq_false (by omega)
    rw [List.take_length] at qx
    try simp only [r27_0, r27_1, r27_2, r27_3, r27_4, r27_5, r27_6, r27_7, c27, F27, l27_0, q8, q7, q6, q2, q3, c2, qx, rd_of qx, qb, go_sem, Int.reduceTMod, Int.reduceTDiv, Int.reduceDiv, Int.reduceMod, Int.reduceAdd, Int.reduceSub, Int.reduceMul, Int.reduceNeg, Int.reducePow, Int.reduceEq, ↓reduceIte, Nat.reduceEqDiff, Nat.reduceAdd, Nat.reduceMul, Nat.reduceLeDiff, Nat.reduceSub, Nat.reduceLT, Int.reduceToNat, Int.reduceLT, Int.reduceLE, reduceCtorEq]
    repeat' ((first | refine FK_split (fun h_ => ?_) (fun h_ => ?_) | refine GK_split (fun h_ => ?_) (fun h_ => ?_) | refine ite_both (fun h_ => ?_) (fun h_ => ?_)) <;> (try simp only [decide_eq_true_eq, decide_eq_false_iff_not, Bool.not_true, Bool.not_false, Bool.not_eq_true', Bool.not_eq_false', Bool.not_eq_eq_eq_not, Decidable.not_not] at h_) <;> (try simp only [r27_0, r27_1, r27_2, r27_3, r27_4, r27_5, r27_6, r27_7, c27, F27, l27_0, q8, q7, q6, q2, q3, c2, qx, rd_of qx, qb, h_, go_sem, Int.reduceTMod, Int.reduceTDiv, Int.reduceDiv, Int.reduceMod, Int.reduceAdd, Int.reduceSub, Int.reduceMul, Int.reduceNeg, Int.reducePow, Int.reduceEq, ↓reduceIte, Nat.reduceEqDiff, Nat.reduceAdd, Nat.reduceMul, Nat.reduceLeDiff, Nat.reduceSub, Nat.reduceLT, Int.reduceToNat, Int.reduceLT, Int.reduceLE, reduceCtorEq]))
  · simp only [List.take_zero, go_sem, Int.reduceTMod, Int.reduceTDiv, Int.reduceDiv, Int.reduceMod, Int.reduceAdd, Int.reduceSub, Int.reduceMul, Int.reduceNeg, Int.reducePow, Int.reduceEq, ↓reduceIte, Nat.reduceEqDiff, Nat.reduceAdd, Nat.reduceMul, Nat.reduceLeDiff, Nat.reduceSub, Nat.reduceLT, Int.reduceToNat, Int.reduceLT, Int.reduceLE, reduceCtorEq]
    refine ⟨by omega, fun id hid => ?_, rfl⟩
    rw [if_neg (show ¬ id = n + 1 by omega), if_neg (show ¬ id = n by omega)]


/-- A row behind a row of the call's own. -/
theorem K_catL {T : Nat → Option SFun} {α : Type} {enc : α → List Cell} {sz : Nat} (hsz : ∀ x, (enc x).length = sz) {base n0 n nx : Nat} {m0 m : Mem} {r0 x : Reg} {l xs : List α} {by' : Nat} {d : Option Nat} {os : List SOper} {e : Nat → Reg} {k : Kt}
    (ho : OL enc sz base m0 n0 r0 l) (hn : n0 ≤ n) (hm : ∀ id, base ≤ id → id < n0 → m id = m0 id) (hx : RL enc sz m nx x xs) (hsm : l.length + xs.length ≤ 4294967296) (hbase : base ≤ n)
    (next : ∀ r' m' n', n ≤ n' → OL enc sz base m' n' r' (l ++ xs) → (∀ id, id < n → sid r0 ≠ some id → m' id = m id) → RK T os (putE e d r') m' n' k) :
    ThenK T d os e k (evApp m n sz by' r0 x) := by
  have hnews : newsOf m sz x = some (xs.length, xs.flatMap enc) := by
    rcases hx with ⟨rfl, rfl⟩ | ⟨ix, off, cap, rfl, _, h3⟩
    · rfl
    · simp only [newsOf, if_true, h3, Option.map_some]
  rcases ho with ⟨rfl, rfl⟩ | ⟨id, rfl, h2, h3, h4⟩
  · simp only [evApp, hnews]
    by_cases hx0 : xs = []
    · subst hx0
      simp only [List.length_nil, if_true]
      exact next _ _ _ (Nat.le_refl _) (Or.inl ⟨rfl, rfl⟩) (fun _ _ _ => rfl)
    · have hpos := List.length_pos_iff.2 hx0
      rw [if_neg (by omega), if_pos (by simp only [List.length_nil] at hsm; omega)]
      exact next _ _ _ (Nat.le_succ _) (Or.inr ⟨n, by simp, hbase, by omega, by rw [upd_same]; simp⟩) (fun i hi _ => upd_ne _ _ (by omega))
  · have h5 : m id = some ⟨l.flatMap enc, true⟩ := by rw [hm id h2 h3]; exact h4
    have hl := flatMap_len enc sz hsz l
    have h6 : rd m id 0 (l.length * sz) = some (l.flatMap enc) := by
      rw [rd_of h5]
      unfold rdB
      rw [if_pos (by rw [hl]; omega), List.drop_zero, ← hl, List.take_length]
    simp only [evApp, hnews, if_true, h5, h6, Option.map_some, true_and, if_pos hsm]
    exact next _ _ _ (Nat.le_succ _) (Or.inr ⟨n, by simp, hbase, by omega, by rw [upd_same]; simp⟩) (fun i hi hs => by rw [upd_ne _ _ (by omega), upd_ne _ _ (fun e => hs (by rw [e]; rfl))])
/-- A clone. -/
def CL (base : Nat) (m : Mem) (n : Nat) (r : Reg) (l : List Sg) : Prop :=
  (r = rnil ∧ l = []) ∨ ∃ id cap, r = .one (.sl id 0 l.length cap 7) ∧ base ≤ id ∧ id < n ∧ m id = some ⟨l.flatMap Sg.cs, true⟩ ∧ (cap = none ∨ l = [])
theorem w_SClone {r : Reg} {l : List Sg} {m : Mem} {n : Nat} (hr : RSg m n r l) (hl : l.length < 4294967296) :
    Fn TA 48 [r] m n (fun r' m' n' => CL n m' n' r' l ∧ n ≤ n') := by
  refine Fn_ofK (fn := F48) rfl (by simp [F48]) ?_
  rcases hr with ⟨rfl, rfl⟩ | ⟨id, off, cap, rfl, hid, hrd⟩
  · skip
    try simp only [r48_0, r48_1, r48_2, r48_3, c48, F48, go_sem, Int.reduceTMod, Int.reduceTDiv, Int.reduceDiv, Int.reduceMod, Int.reduceAdd, Int.reduceSub, Int.reduceMul, Int.reduceNeg, Int.reducePow, Int.reduceEq, ↓reduceIte, Nat.reduceEqDiff, Nat.reduceAdd, Nat.reduceMul, Nat.reduceLeDiff, Nat.reduceSub, Nat.reduceLT, Int.reduceToNat, Int.reduceLT, Int.reduceLE, reduceCtorEq]
    repeat' ((first | refine FK_split (fun h_ => ?_) (fun h_ => ?_) | refine GK_split (fun h_ => ?_) (fun h_ => ?_) | refine ite_both (fun h_ => ?_) (fun h_ => ?_)) <;> (try simp only [decide_eq_true_eq, decide_eq_false_iff_not, Bool.not_true, Bool.not_false, Bool.not_eq_true', Bool.not_eq_false', Bool.not_eq_eq_eq_not, Decidable.not_not] at h_) <;> (try simp only [r48_0, r48_1, r48_2, r48_3, c48, F48, h_, go_sem, Int.reduceTMod, Int.reduceTDiv, Int.reduceDiv, Int.reduceMod, Int.reduceAdd, Int.reduceSub, Int.reduceMul, Int.reduceNeg, Int.reducePow, Int.reduceEq, ↓reduceIte, Nat.reduceEqDiff, Nat.reduceAdd, Nat.reduceMul, Nat.reduceLeDiff, Nat.reduceSub, Nat.reduceLT, Int.reduceToNat, Int.reduceLT, Int.reduceLE, reduceCtorEq]))
    exact ⟨Or.inl ⟨rfl, rfl⟩, by omega⟩
  · have n1 := na_0 hid
    cases l with
    | nil =>
      simp only [List.length_nil, Nat.zero_mul, List.flatMap_nil] at hrd
      try simp only [r48_0, r48_1, r48_2, r48_3, c48, F48, evApp, newsOf, hrd, n1, List.length_nil, Nat.zero_mul, go_sem, Int.reduceTMod, Int.reduceTDiv, Int.reduceDiv, Int.reduceMod, Int.reduceAdd, Int.reduceSub, Int.reduceMul, Int.reduceNeg, Int.reducePow, Int.reduceEq, ↓reduceIte, Nat.reduceEqDiff, Nat.reduceAdd, Nat.reduceMul, Nat.reduceLeDiff, Nat.reduceSub, Nat.reduceLT, Int.reduceToNat, Int.reduceLT, Int.reduceLE, reduceCtorEq]
      repeat' ((first | refine FK_split (fun h_ => ?_) (fun h_ => ?_) | refine GK_split (fun h_ => ?_) (fun h_ => ?_) | refine ite_both (fun h_ => ?_) (fun h_ => ?_)) <;> (try simp only [decide_eq_true_eq, decide_eq_false_iff_not, Bool.not_true, Bool.not_false, Bool.not_eq_true', Bool.not_eq_false', Bool.not_eq_eq_eq_not, Decidable.not_not] at h_) <;> (try simp only [r48_0, r48_1, r48_2, r48_3, c48, F48, evApp, newsOf, hrd, n1, List.length_nil, Nat.zero_mul, h_, go_sem, Int.reduceTMod, Int.reduceTDiv, Int.reduceDiv, Int.reduceMod, Int.reduceAdd, Int.reduceSub, Int.reduceMul, Int.reduceNeg, Int.reducePow, Int.reduceEq, ↓reduceIte, Nat.reduceEqDiff, Nat.reduceAdd, Nat.reduceMul, Nat.reduceLeDiff, Nat.reduceSub, Nat.reduceLT, Int.reduceToNat, Int.reduceLT, Int.reduceLE, reduceCtorEq]))
      exact ⟨Or.inr ⟨n, some 0, rfl, by omega, by omega, by simp only [List.flatMap_nil, go_sem, Int.reduceTMod, Int.reduceTDiv, Int.reduceDiv, Int.reduceMod, Int.reduceAdd, Int.reduceSub, Int.reduceMul, Int.reduceNeg, Int.reducePow, Int.reduceEq, ↓reduceIte, Nat.reduceEqDiff, Nat.reduceAdd, Nat.reduceMul, Nat.reduceLeDiff, Nat.reduceSub, Nat.reduceLT, Int.reduceToNat, Int.reduceLT, Int.reduceLE, reduceCtorEq], Or.inr rfl⟩, by omega⟩
    | cons p l =>
      rw [List.length_cons] at hrd
      have z1 : (l.length + 1 = 0) = False := eq_false (by omega)
      have z2 : (l.length + 1 ≤ 4294967296) = True := eq_true (by rw [List.length_cons] at hl; omega)
      have z3 : (0 + (l.length + 1) ≤ 0) = False := eq_false (by omega)
      try simp only [r48_0, r48_1, r48_2, r48_3, c48, F48, evApp, newsOf, hrd, n1, List.length_cons, z1, z2, z3, Nat.zero_add, Nat.zero_mul, go_sem, Int.reduceTMod, Int.reduceTDiv, Int.reduceDiv, Int.reduceMod, Int.reduceAdd, Int.reduceSub, Int.reduceMul, Int.reduceNeg, Int.reducePow, Int.reduceEq, ↓reduceIte, Nat.reduceEqDiff, Nat.reduceAdd, Nat.reduceMul, Nat.reduceLeDiff, Nat.reduceSub, Nat.reduceLT, Int.reduceToNat, Int.reduceLT, Int.reduceLE, reduceCtorEq]
      repeat' ((first | refine FK_split (fun h_ => ?_) (fun h_ => ?_) | refine GK_split (fun h_ => ?_) (fun h_ => ?_) | refine ite_both (fun h_ => ?_) (fun h_ => ?_)) <;> (try simp only [decide_eq_true_eq, decide_eq_false_iff_not, Bool.not_true, Bool.not_false, Bool.not_eq_true', Bool.not_eq_false', Bool.not_eq_eq_eq_not, Decidable.not_not] at h_) <;> (try simp only [r48_0, r48_1, r48_2, r48_3, c48, F48, evApp, newsOf, hrd, n1, List.length_cons, z1, z2, z3, Nat.zero_add, Nat.zero_mul, h_, go_sem, Int.reduceTMod, Int.reduceTDiv, Int.reduceDiv, Int.reduceMod, Int.reduceAdd, Int.reduceSub, Int.reduceMul, Int.reduceNeg, Int.reducePow, Int.reduceEq, ↓reduceIte, Nat.reduceEqDiff, Nat.reduceAdd, Nat.reduceMul, Nat.reduceLeDiff, Nat.reduceSub, Nat.reduceLT, Int.reduceToNat, Int.reduceLT, Int.reduceLE, reduceCtorEq]))
      exact ⟨Or.inr ⟨n + 1, none, rfl, by omega, by omega, by simp only [List.flatMap_nil, go_sem, Int.reduceTMod, Int.reduceTDiv, Int.reduceDiv, Int.reduceMod, Int.reduceAdd, Int.reduceSub, Int.reduceMul, Int.reduceNeg, Int.reducePow, Int.reduceEq, ↓reduceIte, Nat.reduceEqDiff, Nat.reduceAdd, Nat.reduceMul, Nat.reduceLeDiff, Nat.reduceSub, Nat.reduceLT, Int.reduceToNat, Int.reduceLT, Int.reduceLE, reduceCtorEq], Or.inl rfl⟩, by omega⟩
/-- A part of a row is another row: the reference's. -/
theorem w_With {r x : Reg} {l xs : List Sg} {a dr : Nat} {m : Mem} {n : Nat} (hr : RSg m n r l) (hx : RSg m n x xs) (ha : a + dr ≤ l.length) (hl : l.length + xs.length < 4294967296) :
    Fn TA 21 [r, RI a, RI dr, x] m n (fun r' m' n' => OSg n m' n' r' (l.take a ++ xs ++ l.drop (a + dr)) ∧ n ≤ n') := by
  refine Fn_ofK (fn := F21) rfl (by simp [F21]) ?_
  have hlen := hr.len
  try simp only [r21_0, r21_1, r21_2, r21_3, r21_5, r21_4, r21_6, r21_7, r21_8, r21_10, r21_9, r21_11, c21, F21, go_sem, Int.reduceTMod, Int.reduceTDiv, Int.reduceDiv, Int.reduceMod, Int.reduceAdd, Int.reduceSub, Int.reduceMul, Int.reduceNeg, Int.reducePow, Int.reduceEq, ↓reduceIte, Nat.reduceEqDiff, Nat.reduceAdd, Nat.reduceMul, Nat.reduceLeDiff, Nat.reduceSub, Nat.reduceLT, Int.reduceToNat, Int.reduceLT, Int.reduceLE, reduceCtorEq]
  repeat' ((first | refine FK_split (fun h_ => ?_) (fun h_ => ?_) | refine GK_split (fun h_ => ?_) (fun h_ => ?_) | refine ite_both (fun h_ => ?_) (fun h_ => ?_)) <;> (try simp only [decide_eq_true_eq, decide_eq_false_iff_not, Bool.not_true, Bool.not_false, Bool.not_eq_true', Bool.not_eq_false', Bool.not_eq_eq_eq_not, Decidable.not_not] at h_) <;> (try simp only [r21_0, r21_1, r21_2, r21_3, r21_5, r21_4, r21_6, r21_7, r21_8, r21_10, r21_9, r21_11, c21, F21, h_, go_sem, Int.reduceTMod, Int.reduceTDiv, Int.reduceDiv, Int.reduceMod, Int.reduceAdd, Int.reduceSub, Int.reduceMul, Int.reduceNeg, Int.reducePow, Int.reduceEq, ↓reduceIte, Nat.reduceEqDiff, Nat.reduceAdd, Nat.reduceMul, Nat.reduceLeDiff, Nat.reduceSub, Nat.reduceLT, Int.reduceToNat, Int.reduceLT, Int.reduceLE, reduceCtorEq]))
  refine XK_iter (inv := fun i s => s.e 10 = RI i ∧ s.e 0 = r ∧ s.e 1 = RI a ∧ s.e 2 = RI dr ∧ s.e 3 = x ∧ n ≤ s.n ∧ (∀ id, id < n → s.m id = m id) ∧ OSg n s.m s.n (s.e 9) (l.take i)) a
    (fun L _ => ⟨fun i hi s hs next => ?_, fun s hs => ?_⟩) 0 (by omega) _ ?_
  · obtain ⟨e, M, N⟩ := s
    obtain ⟨q10, q0, q1, q2, q3, qn, qm, qo⟩ := hs
    simp only at q10 q0 q1 q2 q3 qn qm qo
    have hp : l[i]? = some l[i] := List.getElem?_eq_getElem (by omega)
    obtain ⟨id, off, cap, hr1, hid, hrd⟩ := (hr.keep qn qm).at cs7 hp
    generalize l[i] = p at *
    have c1 : ((i : Int) < (a : Int)) = True := eq_true (by omega)
    have c2 : ((i : Int) < (l.length : Int)) = True := eq_true (by omega)
    have c3 : (0 ≤ (i : Int)) = True := eq_true (by omega)
    have c7 : IntKind.i64.wrap ((i : Int) + 1) = ((i + 1 : Nat) : Int) := wr_nat (by omega)
    have q0' := q0
    rw [hr1] at q0'
    have n1 := na_0 hid
    try simp only [r21_0, r21_1, r21_2, r21_3, r21_5, r21_4, r21_6, r21_7, r21_8, r21_10, r21_9, r21_11, c21, F21, l21_0, l21_1, q10, q0', q1, c1, c2, c3, c7, hrd, n1, Int.toNat_natCast, go_sem, Int.reduceTMod, Int.reduceTDiv, Int.reduceDiv, Int.reduceMod, Int.reduceAdd, Int.reduceSub, Int.reduceMul, Int.reduceNeg, Int.reducePow, Int.reduceEq, ↓reduceIte, Nat.reduceEqDiff, Nat.reduceAdd, Nat.reduceMul, Nat.reduceLeDiff, Nat.reduceSub, Nat.reduceLT, Int.reduceToNat, Int.reduceLT, Int.reduceLE, reduceCtorEq]
    repeat' ((first | refine FK_split (fun h_ => ?_) (fun h_ => ?_) | refine GK_split (fun h_ => ?_) (fun h_ => ?_) | refine ite_both (fun h_ => ?_) (fun h_ => ?_)) <;> (try simp only [decide_eq_true_eq, decide_eq_false_iff_not, Bool.not_true, Bool.not_false, Bool.not_eq_true', Bool.not_eq_false', Bool.not_eq_eq_eq_not, Decidable.not_not] at h_) <;> (try simp only [r21_0, r21_1, r21_2, r21_3, r21_5, r21_4, r21_6, r21_7, r21_8, r21_10, r21_9, r21_11, c21, F21, l21_0, l21_1, q10, q0', q1, c1, c2, c3, c7, hrd, n1, Int.toNat_natCast, h_, go_sem, Int.reduceTMod, Int.reduceTDiv, Int.reduceDiv, Int.reduceMod, Int.reduceAdd, Int.reduceSub, Int.reduceMul, Int.reduceNeg, Int.reducePow, Int.reduceEq, ↓reduceIte, Nat.reduceEqDiff, Nat.reduceAdd, Nat.reduceMul, Nat.reduceLeDiff, Nat.reduceSub, Nat.reduceLT, Int.reduceToNat, Int.reduceLT, Int.reduceLE, reduceCtorEq]))
    refine K_push cs7 (by decide) (p := p) (o := true) qo (by omega) (fun id h1 h2 => by simp only [na_0 h2, na_ne h2, go_sem, Int.reduceTMod, Int.reduceTDiv, Int.reduceDiv, Int.reduceMod, Int.reduceAdd, Int.reduceSub, Int.reduceMul, Int.reduceNeg, Int.reducePow, Int.reduceEq, ↓reduceIte, Nat.reduceEqDiff, Nat.reduceAdd, Nat.reduceMul, Nat.reduceLeDiff, Nat.reduceSub, Nat.reduceLT, Int.reduceToNat, Int.reduceLT, Int.reduceLE, reduceCtorEq]) (by simp only [go_sem, Int.reduceTMod, Int.reduceTDiv, Int.reduceDiv, Int.reduceMod, Int.reduceAdd, Int.reduceSub, Int.reduceMul, Int.reduceNeg, Int.reducePow, Int.reduceEq, ↓reduceIte, Nat.reduceEqDiff, Nat.reduceAdd, Nat.reduceMul, Nat.reduceLeDiff, Nat.reduceSub, Nat.reduceLT, Int.reduceToNat, Int.reduceLT, Int.reduceLE, reduceCtorEq]) (by rw [List.length_take]; omega) (by omega) ?_
    intro r' m' ho h1 h2
    try simp only [r21_0, r21_1, r21_2, r21_3, r21_5, r21_4, r21_6, r21_7, r21_8, r21_10, r21_9, r21_11, c21, F21, q10, c7, go_sem, Int.reduceTMod, Int.reduceTDiv, Int.reduceDiv, Int.reduceMod, Int.reduceAdd, Int.reduceSub, Int.reduceMul, Int.reduceNeg, Int.reducePow, Int.reduceEq, ↓reduceIte, Nat.reduceEqDiff, Nat.reduceAdd, Nat.reduceMul, Nat.reduceLeDiff, Nat.reduceSub, Nat.reduceLT, Int.reduceToNat, Int.reduceLT, Int.reduceLE, reduceCtorEq]
    repeat' ((first | refine FK_split (fun h_ => ?_) (fun h_ => ?_) | refine GK_split (fun h_ => ?_) (fun h_ => ?_) | refine ite_both (fun h_ => ?_) (fun h_ => ?_)) <;> (try simp only [decide_eq_true_eq, decide_eq_false_iff_not, Bool.not_true, Bool.not_false, Bool.not_eq_true', Bool.not_eq_false', Bool.not_eq_eq_eq_not, Decidable.not_not] at h_) <;> (try simp only [r21_0, r21_1, r21_2, r21_3, r21_5, r21_4, r21_6, r21_7, r21_8, r21_10, r21_9, r21_11, c21, F21, q10, c7, h_, go_sem, Int.reduceTMod, Int.reduceTDiv, Int.reduceDiv, Int.reduceMod, Int.reduceAdd, Int.reduceSub, Int.reduceMul, Int.reduceNeg, Int.reducePow, Int.reduceEq, ↓reduceIte, Nat.reduceEqDiff, Nat.reduceAdd, Nat.reduceMul, Nat.reduceLeDiff, Nat.reduceSub, Nat.reduceLT, Int.reduceToNat, Int.reduceLT, Int.reduceLE, reduceCtorEq]))
    refine next _ ⟨?_, ?_, ?_, ?_, ?_, ?_, ?_, ?_⟩
    · simp only [go_sem, Int.reduceTMod, Int.reduceTDiv, Int.reduceDiv, Int.reduceMod, Int.reduceAdd, Int.reduceSub, Int.reduceMul, Int.reduceNeg, Int.reducePow, Int.reduceEq, ↓reduceIte, Nat.reduceEqDiff, Nat.reduceAdd, Nat.reduceMul, Nat.reduceLeDiff, Nat.reduceSub, Nat.reduceLT, Int.reduceToNat, Int.reduceLT, Int.reduceLE, reduceCtorEq]
    · simp only [q0, go_sem, Int.reduceTMod, Int.reduceTDiv, Int.reduceDiv, Int.reduceMod, Int.reduceAdd, Int.reduceSub, Int.reduceMul, Int.reduceNeg, Int.reducePow, Int.reduceEq, ↓reduceIte, Nat.reduceEqDiff, Nat.reduceAdd, Nat.reduceMul, Nat.reduceLeDiff, Nat.reduceSub, Nat.reduceLT, Int.reduceToNat, Int.reduceLT, Int.reduceLE, reduceCtorEq]
    · simp only [q1, go_sem, Int.reduceTMod, Int.reduceTDiv, Int.reduceDiv, Int.reduceMod, Int.reduceAdd, Int.reduceSub, Int.reduceMul, Int.reduceNeg, Int.reducePow, Int.reduceEq, ↓reduceIte, Nat.reduceEqDiff, Nat.reduceAdd, Nat.reduceMul, Nat.reduceLeDiff, Nat.reduceSub, Nat.reduceLT, Int.reduceToNat, Int.reduceLT, Int.reduceLE, reduceCtorEq]
    · simp only [q2, go_sem, Int.reduceTMod, Int.reduceTDiv, Int.reduceDiv, Int.reduceMod, Int.reduceAdd, Int.reduceSub, Int.reduceMul, Int.reduceNeg, Int.reducePow, Int.reduceEq, ↓reduceIte, Nat.reduceEqDiff, Nat.reduceAdd, Nat.reduceMul, Nat.reduceLeDiff, Nat.reduceSub, Nat.reduceLT, Int.reduceToNat, Int.reduceLT, Int.reduceLE, reduceCtorEq]
    · simp only [q3, go_sem, Int.reduceTMod, Int.reduceTDiv, Int.reduceDiv, Int.reduceMod, Int.reduceAdd, Int.reduceSub, Int.reduceMul, Int.reduceNeg, Int.reducePow, Int.reduceEq, ↓reduceIte, Nat.reduceEqDiff, Nat.reduceAdd, Nat.reduceMul, Nat.reduceLeDiff, Nat.reduceSub, Nat.reduceLT, Int.reduceToNat, Int.reduceLT, Int.reduceLE, reduceCtorEq]
    · simp only [go_sem, Int.reduceTMod, Int.reduceTDiv, Int.reduceDiv, Int.reduceMod, Int.reduceAdd, Int.reduceSub, Int.reduceMul, Int.reduceNeg, Int.reducePow, Int.reduceEq, ↓reduceIte, Nat.reduceEqDiff, Nat.reduceAdd, Nat.reduceMul, Nat.reduceLeDiff, Nat.reduceSub, Nat.reduceLT, Int.reduceToNat, Int.reduceLT, Int.reduceLE, reduceCtorEq]
      omega
    · intro id hid
      simp only
      rw [h1 id hid]
      simp only [na_0 (show id < N by omega), na_ne (show id < N by omega), qm id hid, go_sem, Int.reduceTMod, Int.reduceTDiv, Int.reduceDiv, Int.reduceMod, Int.reduceAdd, Int.reduceSub, Int.reduceMul, Int.reduceNeg, Int.reducePow, Int.reduceEq, ↓reduceIte, Nat.reduceEqDiff, Nat.reduceAdd, Nat.reduceMul, Nat.reduceLeDiff, Nat.reduceSub, Nat.reduceLT, Int.reduceToNat, Int.reduceLT, Int.reduceLE, reduceCtorEq]
    · simp only [go_sem, Int.reduceTMod, Int.reduceTDiv, Int.reduceDiv, Int.reduceMod, Int.reduceAdd, Int.reduceSub, Int.reduceMul, Int.reduceNeg, Int.reducePow, Int.reduceEq, ↓reduceIte, Nat.reduceEqDiff, Nat.reduceAdd, Nat.reduceMul, Nat.reduceLeDiff, Nat.reduceSub, Nat.reduceLT, Int.reduceToNat, Int.reduceLT, Int.reduceLE, reduceCtorEq]
      rw [take_snoc hp]
      exact ho
  · obtain ⟨e, M, N⟩ := s
    obtain ⟨q10, q0, q1, q2, q3, qn, qm, qo⟩ := hs
    simp only at q10 q0 q1 q2 q3 qn qm qo
    have c1 : ((a : Int) < (a : Int)) = False := eq_false (by omega)
    try simp only [r21_0, r21_1, r21_2, r21_3, r21_5, r21_4, r21_6, r21_7, r21_8, r21_10, r21_9, r21_11, c21, F21, l21_0, q10, q1, q3, c1, go_sem, Int.reduceTMod, Int.reduceTDiv, Int.reduceDiv, Int.reduceMod, Int.reduceAdd, Int.reduceSub, Int.reduceMul, Int.reduceNeg, Int.reducePow, Int.reduceEq, ↓reduceIte, Nat.reduceEqDiff, Nat.reduceAdd, Nat.reduceMul, Nat.reduceLeDiff, Nat.reduceSub, Nat.reduceLT, Int.reduceToNat, Int.reduceLT, Int.reduceLE, reduceCtorEq]
    repeat' ((first | refine FK_split (fun h_ => ?_) (fun h_ => ?_) | refine GK_split (fun h_ => ?_) (fun h_ => ?_) | refine ite_both (fun h_ => ?_) (fun h_ => ?_)) <;> (try simp only [decide_eq_true_eq, decide_eq_false_iff_not, Bool.not_true, Bool.not_false, Bool.not_eq_true', Bool.not_eq_false', Bool.not_eq_eq_eq_not, Decidable.not_not] at h_) <;> (try simp only [r21_0, r21_1, r21_2, r21_3, r21_5, r21_4, r21_6, r21_7, r21_8, r21_10, r21_9, r21_11, c21, F21, l21_0, q10, q1, q3, c1, h_, go_sem, Int.reduceTMod, Int.reduceTDiv, Int.reduceDiv, Int.reduceMod, Int.reduceAdd, Int.reduceSub, Int.reduceMul, Int.reduceNeg, Int.reducePow, Int.reduceEq, ↓reduceIte, Nat.reduceEqDiff, Nat.reduceAdd, Nat.reduceMul, Nat.reduceLeDiff, Nat.reduceSub, Nat.reduceLT, Int.reduceToNat, Int.reduceLT, Int.reduceLE, reduceCtorEq]))
    refine K_catL cs7 qo (Nat.le_refl _) (fun _ _ _ => rfl) (hx.keep qn qm) (by rw [List.length_take]; omega) qn ?_
    intro r1 M1 N1 hN1 ho1 hf1
    have hf1' : ∀ id, id < n → M1 id = m id := fun id hid => by
      rw [hf1 id (by omega) (fun h => by have := qo.sidge h; omega)]
      exact qm id hid
    have w1 : IntKind.i64.wrap ((a : Int) + (dr : Int)) = ((a + dr + 0 : Nat) : Int) := (wr_eq (by omega) (by omega)).trans (by omega)
    try simp only [r21_0, r21_1, r21_2, r21_3, r21_5, r21_4, r21_6, r21_7, r21_8, r21_10, r21_9, r21_11, c21, F21, q1, q2, w1, go_sem, Int.reduceTMod, Int.reduceTDiv, Int.reduceDiv, Int.reduceMod, Int.reduceAdd, Int.reduceSub, Int.reduceMul, Int.reduceNeg, Int.reducePow, Int.reduceEq, ↓reduceIte, Nat.reduceEqDiff, Nat.reduceAdd, Nat.reduceMul, Nat.reduceLeDiff, Nat.reduceSub, Nat.reduceLT, Int.reduceToNat, Int.reduceLT, Int.reduceLE, reduceCtorEq]
    repeat' ((first | refine FK_split (fun h_ => ?_) (fun h_ => ?_) | refine GK_split (fun h_ => ?_) (fun h_ => ?_) | refine ite_both (fun h_ => ?_) (fun h_ => ?_)) <;> (try simp only [decide_eq_true_eq, decide_eq_false_iff_not, Bool.not_true, Bool.not_false, Bool.not_eq_true', Bool.not_eq_false', Bool.not_eq_eq_eq_not, Decidable.not_not] at h_) <;> (try simp only [r21_0, r21_1, r21_2, r21_3, r21_5, r21_4, r21_6, r21_7, r21_8, r21_10, r21_9, r21_11, c21, F21, q1, q2, w1, h_, go_sem, Int.reduceTMod, Int.reduceTDiv, Int.reduceDiv, Int.reduceMod, Int.reduceAdd, Int.reduceSub, Int.reduceMul, Int.reduceNeg, Int.reducePow, Int.reduceEq, ↓reduceIte, Nat.reduceEqDiff, Nat.reduceAdd, Nat.reduceMul, Nat.reduceLeDiff, Nat.reduceSub, Nat.reduceLT, Int.reduceToNat, Int.reduceLT, Int.reduceLE, reduceCtorEq]))
    refine XK_iter (inv := fun i s => s.e 11 = RI ((a + dr + i : Nat) : Int) ∧ s.e 0 = r ∧ n ≤ s.n ∧ (∀ id, id < n → s.m id = m id) ∧ OSg n s.m s.n (s.e 9) (l.take a ++ xs ++ (l.drop (a + dr)).take i)) (l.length - (a + dr))
      (fun L _ => ⟨fun i hi s hs next => ?_, fun s hs => ?_⟩) 0 (by omega) _ ?_
    · obtain ⟨e2, M2, N2⟩ := s
      obtain ⟨p11, p0, pn, pm, po⟩ := hs
      simp only at p11 p0 pn pm po
      have hp : l[a + dr + i]? = some l[a + dr + i] := List.getElem?_eq_getElem (by omega)
      have hp2 : (l.drop (a + dr))[i]? = some l[a + dr + i] := by rw [List.getElem?_drop]; exact hp
      obtain ⟨id, off, cap, hr1, hid, hrd⟩ := (hr.keep pn pm).at cs7 hp
      generalize l[a + dr + i] = p at *
      have c2 : (((a + dr + i : Nat) : Int) < (l.length : Int)) = True := eq_true (by omega)
      have c3 : (0 ≤ ((a + dr + i : Nat) : Int)) = True := eq_true (by omega)
      have c7 : IntKind.i64.wrap (((a + dr + i : Nat) : Int) + 1) = ((a + dr + (i + 1) : Nat) : Int) := (wr_eq (by omega) (by omega)).trans (by omega)
      have p0' := p0
      rw [hr1] at p0'
      have n1 := na_0 hid
      have hlen2 := hlen
      rw [hr1] at hlen2
      try simp only [r21_0, r21_1, r21_2, r21_3, r21_5, r21_4, r21_6, r21_7, r21_8, r21_10, r21_9, r21_11, c21, F21, l21_0, l21_1, p11, p0', hlen2, c2, c3, c7, hrd, n1, Int.toNat_natCast, go_sem, Int.reduceTMod, Int.reduceTDiv, Int.reduceDiv, Int.reduceMod, Int.reduceAdd, Int.reduceSub, Int.reduceMul, Int.reduceNeg, Int.reducePow, Int.reduceEq, ↓reduceIte, Nat.reduceEqDiff, Nat.reduceAdd, Nat.reduceMul, Nat.reduceLeDiff, Nat.reduceSub, Nat.reduceLT, Int.reduceToNat, Int.reduceLT, Int.reduceLE, reduceCtorEq]
      repeat' ((first | refine FK_split (fun h_ => ?_) (fun h_ => ?_) | refine GK_split (fun h_ => ?_) (fun h_ => ?_) | refine ite_both (fun h_ => ?_) (fun h_ => ?_)) <;> (try simp only [decide_eq_true_eq, decide_eq_false_iff_not, Bool.not_true, Bool.not_false, Bool.not_eq_true', Bool.not_eq_false', Bool.not_eq_eq_eq_not, Decidable.not_not] at h_) <;> (try simp only [r21_0, r21_1, r21_2, r21_3, r21_5, r21_4, r21_6, r21_7, r21_8, r21_10, r21_9, r21_11, c21, F21, l21_0, l21_1, p11, p0', hlen2, c2, c3, c7, hrd, n1, Int.toNat_natCast, h_, go_sem, Int.reduceTMod, Int.reduceTDiv, Int.reduceDiv, Int.reduceMod, Int.reduceAdd, Int.reduceSub, Int.reduceMul, Int.reduceNeg, Int.reducePow, Int.reduceEq, ↓reduceIte, Nat.reduceEqDiff, Nat.reduceAdd, Nat.reduceMul, Nat.reduceLeDiff, Nat.reduceSub, Nat.reduceLT, Int.reduceToNat, Int.reduceLT, Int.reduceLE, reduceCtorEq]))
      refine K_push cs7 (by decide) (p := p) (o := true) po (by omega) (fun id h1 h2 => by simp only [na_0 h2, na_ne h2, go_sem, Int.reduceTMod, Int.reduceTDiv, Int.reduceDiv, Int.reduceMod, Int.reduceAdd, Int.reduceSub, Int.reduceMul, Int.reduceNeg, Int.reducePow, Int.reduceEq, ↓reduceIte, Nat.reduceEqDiff, Nat.reduceAdd, Nat.reduceMul, Nat.reduceLeDiff, Nat.reduceSub, Nat.reduceLT, Int.reduceToNat, Int.reduceLT, Int.reduceLE, reduceCtorEq]) (by simp only [go_sem, Int.reduceTMod, Int.reduceTDiv, Int.reduceDiv, Int.reduceMod, Int.reduceAdd, Int.reduceSub, Int.reduceMul, Int.reduceNeg, Int.reducePow, Int.reduceEq, ↓reduceIte, Nat.reduceEqDiff, Nat.reduceAdd, Nat.reduceMul, Nat.reduceLeDiff, Nat.reduceSub, Nat.reduceLT, Int.reduceToNat, Int.reduceLT, Int.reduceLE, reduceCtorEq]) (by simp only [List.length_append, List.length_take, List.length_drop]; omega) (by omega) ?_
      intro r' m' ho h1 h2
      try simp only [r21_0, r21_1, r21_2, r21_3, r21_5, r21_4, r21_6, r21_7, r21_8, r21_10, r21_9, r21_11, c21, F21, p11, c7, go_sem, Int.reduceTMod, Int.reduceTDiv, Int.reduceDiv, Int.reduceMod, Int.reduceAdd, Int.reduceSub, Int.reduceMul, Int.reduceNeg, Int.reducePow, Int.reduceEq, ↓reduceIte, Nat.reduceEqDiff, Nat.reduceAdd, Nat.reduceMul, Nat.reduceLeDiff, Nat.reduceSub, Nat.reduceLT, Int.reduceToNat, Int.reduceLT, Int.reduceLE, reduceCtorEq]
      repeat' ((first | refine FK_split (fun h_ => ?_) (fun h_ => ?_) | refine GK_split (fun h_ => ?_) (fun h_ => ?_) | refine ite_both (fun h_ => ?_) (fun h_ => ?_)) <;> (try simp only [decide_eq_true_eq, decide_eq_false_iff_not, Bool.not_true, Bool.not_false, Bool.not_eq_true', Bool.not_eq_false', Bool.not_eq_eq_eq_not, Decidable.not_not] at h_) <;> (try simp only [r21_0, r21_1, r21_2, r21_3, r21_5, r21_4, r21_6, r21_7, r21_8, r21_10, r21_9, r21_11, c21, F21, p11, c7, h_, go_sem, Int.reduceTMod, Int.reduceTDiv, Int.reduceDiv, Int.reduceMod, Int.reduceAdd, Int.reduceSub, Int.reduceMul, Int.reduceNeg, Int.reducePow, Int.reduceEq, ↓reduceIte, Nat.reduceEqDiff, Nat.reduceAdd, Nat.reduceMul, Nat.reduceLeDiff, Nat.reduceSub, Nat.reduceLT, Int.reduceToNat, Int.reduceLT, Int.reduceLE, reduceCtorEq]))
      refine next _ ⟨?_, ?_, ?_, ?_, ?_⟩
      · simp only [go_sem, Int.reduceTMod, Int.reduceTDiv, Int.reduceDiv, Int.reduceMod, Int.reduceAdd, Int.reduceSub, Int.reduceMul, Int.reduceNeg, Int.reducePow, Int.reduceEq, ↓reduceIte, Nat.reduceEqDiff, Nat.reduceAdd, Nat.reduceMul, Nat.reduceLeDiff, Nat.reduceSub, Nat.reduceLT, Int.reduceToNat, Int.reduceLT, Int.reduceLE, reduceCtorEq]
      · simp only [p0, go_sem, Int.reduceTMod, Int.reduceTDiv, Int.reduceDiv, Int.reduceMod, Int.reduceAdd, Int.reduceSub, Int.reduceMul, Int.reduceNeg, Int.reducePow, Int.reduceEq, ↓reduceIte, Nat.reduceEqDiff, Nat.reduceAdd, Nat.reduceMul, Nat.reduceLeDiff, Nat.reduceSub, Nat.reduceLT, Int.reduceToNat, Int.reduceLT, Int.reduceLE, reduceCtorEq]
      · simp only [go_sem, Int.reduceTMod, Int.reduceTDiv, Int.reduceDiv, Int.reduceMod, Int.reduceAdd, Int.reduceSub, Int.reduceMul, Int.reduceNeg, Int.reducePow, Int.reduceEq, ↓reduceIte, Nat.reduceEqDiff, Nat.reduceAdd, Nat.reduceMul, Nat.reduceLeDiff, Nat.reduceSub, Nat.reduceLT, Int.reduceToNat, Int.reduceLT, Int.reduceLE, reduceCtorEq]
        omega
      · intro id hid
        simp only
        rw [h1 id hid]
        simp only [na_0 (show id < N2 by omega), na_ne (show id < N2 by omega), pm id hid, go_sem, Int.reduceTMod, Int.reduceTDiv, Int.reduceDiv, Int.reduceMod, Int.reduceAdd, Int.reduceSub, Int.reduceMul, Int.reduceNeg, Int.reducePow, Int.reduceEq, ↓reduceIte, Nat.reduceEqDiff, Nat.reduceAdd, Nat.reduceMul, Nat.reduceLeDiff, Nat.reduceSub, Nat.reduceLT, Int.reduceToNat, Int.reduceLT, Int.reduceLE, reduceCtorEq]
      · simp only [go_sem, Int.reduceTMod, Int.reduceTDiv, Int.reduceDiv, Int.reduceMod, Int.reduceAdd, Int.reduceSub, Int.reduceMul, Int.reduceNeg, Int.reducePow, Int.reduceEq, ↓reduceIte, Nat.reduceEqDiff, Nat.reduceAdd, Nat.reduceMul, Nat.reduceLeDiff, Nat.reduceSub, Nat.reduceLT, Int.reduceToNat, Int.reduceLT, Int.reduceLE, reduceCtorEq]
        rw [take_snoc hp2, ← List.append_assoc]
        exact ho
    · obtain ⟨e2, M2, N2⟩ := s
      obtain ⟨p11, p0, pn, pm, po⟩ := hs
      simp only at p11 p0 pn pm po
      have c2 : (((a + dr + (l.length - (a + dr)) : Nat) : Int) < (l.length : Int)) = False := eq_false (by omega)
      rw [show (l.drop (a + dr)).take (l.length - (a + dr)) = l.drop (a + dr) from List.take_of_length_le (by rw [List.length_drop]; omega)] at po
      try simp only [r21_0, r21_1, r21_2, r21_3, r21_5, r21_4, r21_6, r21_7, r21_8, r21_10, r21_9, r21_11, c21, F21, l21_0, l21_1, p11, p0, hlen, c2, go_sem, Int.reduceTMod, Int.reduceTDiv, Int.reduceDiv, Int.reduceMod, Int.reduceAdd, Int.reduceSub, Int.reduceMul, Int.reduceNeg, Int.reducePow, Int.reduceEq, ↓reduceIte, Nat.reduceEqDiff, Nat.reduceAdd, Nat.reduceMul, Nat.reduceLeDiff, Nat.reduceSub, Nat.reduceLT, Int.reduceToNat, Int.reduceLT, Int.reduceLE, reduceCtorEq]
      repeat' ((first | refine FK_split (fun h_ => ?_) (fun h_ => ?_) | refine GK_split (fun h_ => ?_) (fun h_ => ?_) | refine ite_both (fun h_ => ?_) (fun h_ => ?_)) <;> (try simp only [decide_eq_true_eq, decide_eq_false_iff_not, Bool.not_true, Bool.not_false, Bool.not_eq_true', Bool.not_eq_false', Bool.not_eq_eq_eq_not, Decidable.not_not] at h_) <;> (try simp only [r21_0, r21_1, r21_2, r21_3, r21_5, r21_4, r21_6, r21_7, r21_8, r21_10, r21_9, r21_11, c21, F21, l21_0, l21_1, p11, p0, hlen, c2, h_, go_sem, Int.reduceTMod, Int.reduceTDiv, Int.reduceDiv, Int.reduceMod, Int.reduceAdd, Int.reduceSub, Int.reduceMul, Int.reduceNeg, Int.reducePow, Int.reduceEq, ↓reduceIte, Nat.reduceEqDiff, Nat.reduceAdd, Nat.reduceMul, Nat.reduceLeDiff, Nat.reduceSub, Nat.reduceLT, Int.reduceToNat, Int.reduceLT, Int.reduceLE, reduceCtorEq]))
      exact ⟨po, pn⟩
    · refine ⟨?_, ?_, by simp only; omega, hf1', ?_⟩
      · simp only [go_sem, Int.reduceTMod, Int.reduceTDiv, Int.reduceDiv, Int.reduceMod, Int.reduceAdd, Int.reduceSub, Int.reduceMul, Int.reduceNeg, Int.reducePow, Int.reduceEq, ↓reduceIte, Nat.reduceEqDiff, Nat.reduceAdd, Nat.reduceMul, Nat.reduceLeDiff, Nat.reduceSub, Nat.reduceLT, Int.reduceToNat, Int.reduceLT, Int.reduceLE, reduceCtorEq]
      · simp only [q0, go_sem, Int.reduceTMod, Int.reduceTDiv, Int.reduceDiv, Int.reduceMod, Int.reduceAdd, Int.reduceSub, Int.reduceMul, Int.reduceNeg, Int.reducePow, Int.reduceEq, ↓reduceIte, Nat.reduceEqDiff, Nat.reduceAdd, Nat.reduceMul, Nat.reduceLeDiff, Nat.reduceSub, Nat.reduceLT, Int.reduceToNat, Int.reduceLT, Int.reduceLE, reduceCtorEq]
      · simp only [List.take_zero, List.append_nil, go_sem, Int.reduceTMod, Int.reduceTDiv, Int.reduceDiv, Int.reduceMod, Int.reduceAdd, Int.reduceSub, Int.reduceMul, Int.reduceNeg, Int.reducePow, Int.reduceEq, ↓reduceIte, Nat.reduceEqDiff, Nat.reduceAdd, Nat.reduceMul, Nat.reduceLeDiff, Nat.reduceSub, Nat.reduceLT, Int.reduceToNat, Int.reduceLT, Int.reduceLE, reduceCtorEq]
        exact ho1
  · refine ⟨?_, ?_, ?_, ?_, ?_, ?_, ?_, ?_⟩
    · simp only [go_sem, Int.reduceTMod, Int.reduceTDiv, Int.reduceDiv, Int.reduceMod, Int.reduceAdd, Int.reduceSub, Int.reduceMul, Int.reduceNeg, Int.reducePow, Int.reduceEq, ↓reduceIte, Nat.reduceEqDiff, Nat.reduceAdd, Nat.reduceMul, Nat.reduceLeDiff, Nat.reduceSub, Nat.reduceLT, Int.reduceToNat, Int.reduceLT, Int.reduceLE, reduceCtorEq]
    · simp only [go_sem, Int.reduceTMod, Int.reduceTDiv, Int.reduceDiv, Int.reduceMod, Int.reduceAdd, Int.reduceSub, Int.reduceMul, Int.reduceNeg, Int.reducePow, Int.reduceEq, ↓reduceIte, Nat.reduceEqDiff, Nat.reduceAdd, Nat.reduceMul, Nat.reduceLeDiff, Nat.reduceSub, Nat.reduceLT, Int.reduceToNat, Int.reduceLT, Int.reduceLE, reduceCtorEq]
    · simp only [go_sem, Int.reduceTMod, Int.reduceTDiv, Int.reduceDiv, Int.reduceMod, Int.reduceAdd, Int.reduceSub, Int.reduceMul, Int.reduceNeg, Int.reducePow, Int.reduceEq, ↓reduceIte, Nat.reduceEqDiff, Nat.reduceAdd, Nat.reduceMul, Nat.reduceLeDiff, Nat.reduceSub, Nat.reduceLT, Int.reduceToNat, Int.reduceLT, Int.reduceLE, reduceCtorEq]
    · simp only [go_sem, Int.reduceTMod, Int.reduceTDiv, Int.reduceDiv, Int.reduceMod, Int.reduceAdd, Int.reduceSub, Int.reduceMul, Int.reduceNeg, Int.reducePow, Int.reduceEq, ↓reduceIte, Nat.reduceEqDiff, Nat.reduceAdd, Nat.reduceMul, Nat.reduceLeDiff, Nat.reduceSub, Nat.reduceLT, Int.reduceToNat, Int.reduceLT, Int.reduceLE, reduceCtorEq]
    · simp only [go_sem, Int.reduceTMod, Int.reduceTDiv, Int.reduceDiv, Int.reduceMod, Int.reduceAdd, Int.reduceSub, Int.reduceMul, Int.reduceNeg, Int.reducePow, Int.reduceEq, ↓reduceIte, Nat.reduceEqDiff, Nat.reduceAdd, Nat.reduceMul, Nat.reduceLeDiff, Nat.reduceSub, Nat.reduceLT, Int.reduceToNat, Int.reduceLT, Int.reduceLE, reduceCtorEq]
    · exact Nat.le_refl _
    · exact fun _ _ => rfl
    · simp only [List.take_zero, go_sem, Int.reduceTMod, Int.reduceTDiv, Int.reduceDiv, Int.reduceMod, Int.reduceAdd, Int.reduceSub, Int.reduceMul, Int.reduceNeg, Int.reducePow, Int.reduceEq, ↓reduceIte, Nat.reduceEqDiff, Nat.reduceAdd, Nat.reduceMul, Nat.reduceLeDiff, Nat.reduceSub, Nat.reduceLT, Int.reduceToNat, Int.reduceLT, Int.reduceLE, reduceCtorEq]
      exact OL.nil
end Go.Proofs.YtpleidpbapgmiaaDoor.Sy
