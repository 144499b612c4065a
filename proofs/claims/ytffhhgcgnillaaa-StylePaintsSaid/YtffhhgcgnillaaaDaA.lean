/- Patterns walked (chapter 09): the reference's answer. Conditions: those that each theorem names. -/
import Derived.Test.YtffhhgcgnillaaaSyTA
import Derived.Test.YtffhhgcgnillaaaSlA
namespace Go.Proofs.Ytffhhgcgnillaaa.Sy
open Go Go.Proofs
set_option linter.unusedSimpArgs false
set_option linter.unusedVariables false
set_option maxRecDepth 20000
attribute [local go_sem] XK_seq XK_block XK_skip XK_exit XK_ret XK_cond XK_reg XK_dreg XK_ureg KN_seq KN_blk KN_lp KN_chk KN_chku KN_top KN_fin KX_seq KX_lp KX_blk KX_chk KX_top KR_seq KR_blk KR_lp KR_chk KR_top KR_fin FK_true FK_false RK_nil RK_mv RK_pick RK_alloc RK_box RK_build RK_bslice RK_load1 RK_loadA RK_store RK_nilchk RK_bin RK_beq RK_eqv RK_eqnil RK_un RK_conv RK_mkfn RK_mkslice RK_slS RK_slA RK_fadr RK_fld RK_iadrA RK_iadrS RK_idxA RK_istr RK_ext RK_lenC RK_cap RK_app RK_appz RK_pre RK_cpy RK_mn RK_mx RK_len RK_carry RK_clr carryR um0 um1 ThenK_some RK_guard GK_tt GK_ff GK_tf GK_ft GK_none QK_some RK_callQ RK_callZ RK_callT TK_some VK_clo RK_callV
  evalOp evO evOs upd_at unfrz_at putE_some putE_none boolOf_b boolOf_tup Option.map_some evRes pack_one pack_two pack_three pack_none List.getD_cons_zero List.getD_cons_succ getD_nil
  Option.some.injEq exists_eq_left' Reg.cs? fillC setL List.set_cons_zero List.set_cons_succ List.length_cons List.length_nil rd_upd rd_updn rdB wr List.drop_zero List.drop_succ_cons List.take_succ_cons List.take_zero List.getElem?_cons_zero List.getElem?_cons_succ
  ix Int.toNat_zero lenO_sl lenO_nil nadd na_eq na_eq' na_lt na_ee na_ll na_ne na_ne' na_tt
attribute [local go_sem] Reg.flat_one Reg.flat_agg Reg.flat_tup flats_nil flats_cons Cell.flat_sc Cell.flat_ptr List.all_cons List.all_nil disOk safeOk safeR decide_eq_true_eq decide_eq_false_iff_not
  List.map_cons List.map_nil List.cons_append List.nil_append List.append_nil evalOp.capsOf Bool.false_bne Bool.bne_false Bool.true_bne Bool.bne_true bne_self_eq_false beq_self_eq_true Bool.not_not Bool.false_and Bool.and_false Bool.true_or Bool.or_true beq_iff_eq eqCells
  Bool.true_beq Bool.false_beq Bool.not_eq_true' Bool.not_eq_eq_eq_not Bool.not_eq_false' and_false false_and frz_at idOf noId Option.isSome_some Bool.and_eq_true
attribute [local go_sem] wr_eq bV_add bV_sub bV_mul bV_eql bV_neq bV_lss bV_leq bV_gtr bV_geq bV_quo bV_rem bV_shr bV_shl uV_not uV_neg wrapU bits_and bits_or bits_xor IntKind.bits Nat.min_eq_left Nat.min_eq_right Nat.min_self
attribute [local go_sem] bne_iff_ne Int.cast_ofNat_Int Nat.zero_add Nat.add_zero and_self and_true true_and ne_eq not_false_eq_true not_true_eq_false decide_true decide_false Bool.false_eq_true Bool.not_true Bool.not_false Bool.true_and Bool.and_true Bool.or_false Bool.false_or Bool.and_self

abbrev encI (x : Int) : List Cell := [I x]
abbrev RIn := RL encI 1
theorem ci1 (x : Int) : (encI x).length = 1 := rfl
theorem RL.int {m : Mem} {n : Nat} {r : Reg} {l : List Int} {i : Nat} {x : Int} (h : RIn m n r l) (hi : l[i]? = some x) :
    ∃ id off cap b, r = .one (.sl id off l.length cap 1) ∧ id < n ∧ m id = some b ∧ b.cells[off + i]? = some (I x) := by
  obtain ⟨id, off, cap, h1, h2, h3⟩ := h.at ci1 hi
  obtain ⟨b, h4, h5⟩ := rd_cell h3 (a := 0) (c := I x) rfl
  exact ⟨id, off, cap, b, h1, h2, h4, by rw [Nat.mul_one, Nat.add_zero] at h5; exact h5⟩
def okD (x : Int) : Bool := decide (1 ≤ x) && decide (x ≤ 1048576)
theorem okD_iff {x : Int} : okD x = true ↔ 1 ≤ x ∧ x ≤ 1048576 := by simp [okD]
def rightB (l : List Int) (ph : Int) : Bool :=
  if l = [] then decide (ph = 0) else if l.length = 2 ∨ l.length = 4 ∨ l.length = 6 ∨ l.length = 8 then l.all okD && (decide (0 ≤ ph) && decide (ph < l.sum)) else false
theorem sum_snoc {l : List Int} {i : Nat} {x : Int} (hx : l[i]? = some x) : (l.take (i + 1)).sum = (l.take i).sum + x := by
  rw [List.take_add_one, hx]
  simp
theorem allD_snoc {l : List Int} {i : Nat} {x : Int} (hx : l[i]? = some x) : (l.take (i + 1)).all okD = ((l.take i).all okD && okD x) := by
  rw [List.take_add_one, hx, List.all_append]
  simp
theorem sum_bd : ∀ (l : List Int), l.all okD = true → 0 ≤ l.sum ∧ l.sum ≤ 1048576 * (l.length : Int)
  | [], _ => by simp
  | x :: l, h => by
    simp only [List.all_cons, Bool.and_eq_true] at h
    have := sum_bd l h.2
    have h1 := okD_iff.1 h.1
    simp only [List.sum_cons, List.length_cons]
    omega
theorem v_RightA (r : Reg) (l : List Int) (ph : Int) (m : Mem) (n : Nat) (hr : RIn m n r l) : callF TA 22 [r, RI ph] m n = some (RB (rightB l ph)) := by
  refine callF_of (Fn_ofK (fn := F22) rfl (by simp [F22]) ?_)
  have hlen := hr.len
  by_cases g0 : l.length = 0
  · have e : l = [] := List.length_eq_zero_iff.1 g0
    have e2 : rightB l ph = decide (ph = 0) := by unfold rightB; rw [if_pos e]
    have g0' : ((l.length : Int) = 0) = True := eq_true (by omega)
    try simp only [r22_0, r22_1, r22_2, r22_3, r22_4, r22_5, r22_6, r22_7, r22_9, r22_10, r22_11, r22_8, r22_12, c22, F22, hlen, g0', e2, go_sem, Int.reduceTMod, Int.reduceTDiv, Int.reduceDiv, Int.reduceMod, Int.reduceAdd, Int.reduceSub, Int.reduceMul, Int.reduceNeg, Int.reducePow, Int.reduceEq, ↓reduceIte, Nat.reduceEqDiff, Nat.reduceAdd, Nat.reduceMul, Nat.reduceLeDiff, Nat.reduceSub, Nat.reduceLT, Int.reduceToNat, Int.reduceLT, Int.reduceLE, reduceCtorEq]
    repeat' ((first | refine FK_split (fun h_ => ?_) (fun h_ => ?_) | refine GK_split (fun h_ => ?_) (fun h_ => ?_) | refine ite_both (fun h_ => ?_) (fun h_ => ?_)) <;> (try simp only [decide_eq_true_eq, decide_eq_false_iff_not, Bool.not_true, Bool.not_false, Bool.not_eq_true', Bool.not_eq_false', Bool.not_eq_eq_eq_not, Decidable.not_not] at h_) <;> (try simp only [r22_0, r22_1, r22_2, r22_3, r22_4, r22_5, r22_6, r22_7, r22_9, r22_10, r22_11, r22_8, r22_12, c22, F22, hlen, g0', e2, h_, go_sem, Int.reduceTMod, Int.reduceTDiv, Int.reduceDiv, Int.reduceMod, Int.reduceAdd, Int.reduceSub, Int.reduceMul, Int.reduceNeg, Int.reducePow, Int.reduceEq, ↓reduceIte, Nat.reduceEqDiff, Nat.reduceAdd, Nat.reduceMul, Nat.reduceLeDiff, Nat.reduceSub, Nat.reduceLT, Int.reduceToNat, Int.reduceLT, Int.reduceLE, reduceCtorEq]))
  · have g0' : ((l.length : Int) = 0) = False := eq_false (by omega)
    have e : ¬ l = [] := fun h => g0 (by rw [h]; rfl)
    by_cases g1 : l.length = 2 ∨ l.length = 4 ∨ l.length = 6 ∨ l.length = 8
    · have e2 : rightB l ph = (l.all okD && (decide (0 ≤ ph) && decide (ph < l.sum))) := by unfold rightB; rw [if_neg e, if_pos g1]
      rw [e2]
      have hloop : ∀ s : St, s.e 6 = RI ((0 : Nat) : Int) → s.e 5 = RI 0 → s.e 0 = r → s.e 1 = RI ph → s.m = m → s.n = n → XK TA (.loop l22_0) s (.blk 0 (.seq (.seq (.reg r22_12) .ret) (.fin F22.res fun r' _ _ => r' = RB (l.all okD && (decide (0 ≤ ph) && decide (ph < l.sum)))))) := by
        intro s0 w6 w5 w0 w1 wm wn
        refine XK_iter (inv := fun i s => s.e 6 = RI i ∧ s.e 5 = RI (l.take i).sum ∧ s.e 0 = r ∧ s.e 1 = RI ph ∧ s.m = m ∧ s.n = n ∧ (l.take i).all okD = true) l.length
          (fun L _ => ⟨fun i hi s hs next => ?_, fun s hs => ?_⟩) 0 (by omega) _ ?_
        · obtain ⟨q6, q5, q0, q1, qm, qn, qa⟩ := hs
          have hx : l[i]? = some l[i] := List.getElem?_eq_getElem hi
          obtain ⟨id, off, cap, b, hr1, hid, hb, hc⟩ := RL.int hr hx
          generalize l[i] = x at *
          have c2 : ((i : Int) < (l.length : Int)) = True := eq_true (by omega)
          have c3 : (0 ≤ (i : Int)) = True := eq_true (by omega)
          have c7 : IntKind.i64.wrap ((i : Int) + 1) = ((i + 1 : Nat) : Int) := wr_nat (by omega)
          have hs1 := sum_snoc hx
          have ha1 := allD_snoc hx
          rw [hr1] at q0
          cases hk : okD x with
          | true =>
            have hk' := okD_iff.1 hk
            have d1 : (x < 1) = False := eq_false (by omega)
            have d2 : (1048576 < x) = False := eq_false (by omega)
            have sb := sum_bd _ qa
            have hlt : (l.take i).length ≤ 8 := by rw [List.length_take]; omega
            have w : IntKind.i64.wrap ((l.take i).sum + x) = (l.take i).sum + x := wr_eq (by omega) (by omega)
            try simp only [r22_0, r22_1, r22_2, r22_3, r22_4, r22_5, r22_6, r22_7, r22_9, r22_10, r22_11, r22_8, r22_12, c22, F22, l22_0, q6, q5, q0, q1, qm, qn, c2, c3, c7, hb, hc, d1, d2, w, Int.toNat_natCast, Nat.mul_one, go_sem, Int.reduceTMod, Int.reduceTDiv, Int.reduceDiv, Int.reduceMod, Int.reduceAdd, Int.reduceSub, Int.reduceMul, Int.reduceNeg, Int.reducePow, Int.reduceEq, ↓reduceIte, Nat.reduceEqDiff, Nat.reduceAdd, Nat.reduceMul, Nat.reduceLeDiff, Nat.reduceSub, Nat.reduceLT, Int.reduceToNat, Int.reduceLT, Int.reduceLE, reduceCtorEq]
            repeat' ((first | refine FK_split (fun h_ => ?_) (fun h_ => ?_) | refine GK_split (fun h_ => ?_) (fun h_ => ?_) | refine ite_both (fun h_ => ?_) (fun h_ => ?_)) <;> (try simp only [decide_eq_true_eq, decide_eq_false_iff_not, Bool.not_true, Bool.not_false, Bool.not_eq_true', Bool.not_eq_false', Bool.not_eq_eq_eq_not, Decidable.not_not] at h_) <;> (try simp only [r22_0, r22_1, r22_2, r22_3, r22_4, r22_5, r22_6, r22_7, r22_9, r22_10, r22_11, r22_8, r22_12, c22, F22, l22_0, q6, q5, q0, q1, qm, qn, c2, c3, c7, hb, hc, d1, d2, w, Int.toNat_natCast, Nat.mul_one, h_, go_sem, Int.reduceTMod, Int.reduceTDiv, Int.reduceDiv, Int.reduceMod, Int.reduceAdd, Int.reduceSub, Int.reduceMul, Int.reduceNeg, Int.reducePow, Int.reduceEq, ↓reduceIte, Nat.reduceEqDiff, Nat.reduceAdd, Nat.reduceMul, Nat.reduceLeDiff, Nat.reduceSub, Nat.reduceLT, Int.reduceToNat, Int.reduceLT, Int.reduceLE, reduceCtorEq]))
            refine next _ ⟨?_, ?_, ?_, ?_, ?_, ?_, ?_⟩
            all_goals simp only [q6, q5, q0, q1, qm, qn, hr1, hs1, ha1, qa, hk, go_sem, Int.reduceTMod, Int.reduceTDiv, Int.reduceDiv, Int.reduceMod, Int.reduceAdd, Int.reduceSub, Int.reduceMul, Int.reduceNeg, Int.reducePow, Int.reduceEq, ↓reduceIte, Nat.reduceEqDiff, Nat.reduceAdd, Nat.reduceMul, Nat.reduceLeDiff, Nat.reduceSub, Nat.reduceLT, Int.reduceToNat, Int.reduceLT, Int.reduceLE, reduceCtorEq]
          | false =>
            have hl0 : l.all okD = false := by
              rw [List.all_eq_false]
              exact ⟨x, List.mem_of_getElem? hx, by simp [hk]⟩
            by_cases d1 : x < 1
            · skip
              try simp only [r22_0, r22_1, r22_2, r22_3, r22_4, r22_5, r22_6, r22_7, r22_9, r22_10, r22_11, r22_8, r22_12, c22, F22, l22_0, q6, q5, q0, q1, qm, qn, c2, c3, c7, hb, hc, d1, hl0, Int.toNat_natCast, Nat.mul_one, go_sem, Int.reduceTMod, Int.reduceTDiv, Int.reduceDiv, Int.reduceMod, Int.reduceAdd, Int.reduceSub, Int.reduceMul, Int.reduceNeg, Int.reducePow, Int.reduceEq, ↓reduceIte, Nat.reduceEqDiff, Nat.reduceAdd, Nat.reduceMul, Nat.reduceLeDiff, Nat.reduceSub, Nat.reduceLT, Int.reduceToNat, Int.reduceLT, Int.reduceLE, reduceCtorEq]
              repeat' ((first | refine FK_split (fun h_ => ?_) (fun h_ => ?_) | refine GK_split (fun h_ => ?_) (fun h_ => ?_) | refine ite_both (fun h_ => ?_) (fun h_ => ?_)) <;> (try simp only [decide_eq_true_eq, decide_eq_false_iff_not, Bool.not_true, Bool.not_false, Bool.not_eq_true', Bool.not_eq_false', Bool.not_eq_eq_eq_not, Decidable.not_not] at h_) <;> (try simp only [r22_0, r22_1, r22_2, r22_3, r22_4, r22_5, r22_6, r22_7, r22_9, r22_10, r22_11, r22_8, r22_12, c22, F22, l22_0, q6, q5, q0, q1, qm, qn, c2, c3, c7, hb, hc, d1, hl0, Int.toNat_natCast, Nat.mul_one, h_, go_sem, Int.reduceTMod, Int.reduceTDiv, Int.reduceDiv, Int.reduceMod, Int.reduceAdd, Int.reduceSub, Int.reduceMul, Int.reduceNeg, Int.reducePow, Int.reduceEq, ↓reduceIte, Nat.reduceEqDiff, Nat.reduceAdd, Nat.reduceMul, Nat.reduceLeDiff, Nat.reduceSub, Nat.reduceLT, Int.reduceToNat, Int.reduceLT, Int.reduceLE, reduceCtorEq]))
            · have d2 : (1048576 < x) = True := eq_true (by
                have : ¬ (1 ≤ x ∧ x ≤ 1048576) := fun h => by rw [okD_iff.2 h] at hk; cases hk
                omega)
              try simp only [r22_0, r22_1, r22_2, r22_3, r22_4, r22_5, r22_6, r22_7, r22_9, r22_10, r22_11, r22_8, r22_12, c22, F22, l22_0, q6, q5, q0, q1, qm, qn, c2, c3, c7, hb, hc, d1, d2, hl0, Int.toNat_natCast, Nat.mul_one, go_sem, Int.reduceTMod, Int.reduceTDiv, Int.reduceDiv, Int.reduceMod, Int.reduceAdd, Int.reduceSub, Int.reduceMul, Int.reduceNeg, Int.reducePow, Int.reduceEq, ↓reduceIte, Nat.reduceEqDiff, Nat.reduceAdd, Nat.reduceMul, Nat.reduceLeDiff, Nat.reduceSub, Nat.reduceLT, Int.reduceToNat, Int.reduceLT, Int.reduceLE, reduceCtorEq]
              repeat' ((first | refine FK_split (fun h_ => ?_) (fun h_ => ?_) | refine GK_split (fun h_ => ?_) (fun h_ => ?_) | refine ite_both (fun h_ => ?_) (fun h_ => ?_)) <;> (try simp only [decide_eq_true_eq, decide_eq_false_iff_not, Bool.not_true, Bool.not_false, Bool.not_eq_true', Bool.not_eq_false', Bool.not_eq_eq_eq_not, Decidable.not_not] at h_) <;> (try simp only [r22_0, r22_1, r22_2, r22_3, r22_4, r22_5, r22_6, r22_7, r22_9, r22_10, r22_11, r22_8, r22_12, c22, F22, l22_0, q6, q5, q0, q1, qm, qn, c2, c3, c7, hb, hc, d1, d2, hl0, Int.toNat_natCast, Nat.mul_one, h_, go_sem, Int.reduceTMod, Int.reduceTDiv, Int.reduceDiv, Int.reduceMod, Int.reduceAdd, Int.reduceSub, Int.reduceMul, Int.reduceNeg, Int.reducePow, Int.reduceEq, ↓reduceIte, Nat.reduceEqDiff, Nat.reduceAdd, Nat.reduceMul, Nat.reduceLeDiff, Nat.reduceSub, Nat.reduceLT, Int.reduceToNat, Int.reduceLT, Int.reduceLE, reduceCtorEq]))
        · obtain ⟨q6, q5, q0, q1, qm, qn, qa⟩ := hs
          have c2 : ((l.length : Int) < (l.length : Int)) = False := eq_false (by omega)
          rw [List.take_length] at qa q5
          by_cases p1 : 0 ≤ ph
          · skip
            try simp only [r22_0, r22_1, r22_2, r22_3, r22_4, r22_5, r22_6, r22_7, r22_9, r22_10, r22_11, r22_8, r22_12, c22, F22, l22_0, q6, q5, q0, q1, qm, qn, hlen, c2, qa, p1, go_sem, Int.reduceTMod, Int.reduceTDiv, Int.reduceDiv, Int.reduceMod, Int.reduceAdd, Int.reduceSub, Int.reduceMul, Int.reduceNeg, Int.reducePow, Int.reduceEq, ↓reduceIte, Nat.reduceEqDiff, Nat.reduceAdd, Nat.reduceMul, Nat.reduceLeDiff, Nat.reduceSub, Nat.reduceLT, Int.reduceToNat, Int.reduceLT, Int.reduceLE, reduceCtorEq]
            repeat' ((first | refine FK_split (fun h_ => ?_) (fun h_ => ?_) | refine GK_split (fun h_ => ?_) (fun h_ => ?_) | refine ite_both (fun h_ => ?_) (fun h_ => ?_)) <;> (try simp only [decide_eq_true_eq, decide_eq_false_iff_not, Bool.not_true, Bool.not_false, Bool.not_eq_true', Bool.not_eq_false', Bool.not_eq_eq_eq_not, Decidable.not_not] at h_) <;> (try simp only [r22_0, r22_1, r22_2, r22_3, r22_4, r22_5, r22_6, r22_7, r22_9, r22_10, r22_11, r22_8, r22_12, c22, F22, l22_0, q6, q5, q0, q1, qm, qn, hlen, c2, qa, p1, h_, go_sem, Int.reduceTMod, Int.reduceTDiv, Int.reduceDiv, Int.reduceMod, Int.reduceAdd, Int.reduceSub, Int.reduceMul, Int.reduceNeg, Int.reducePow, Int.reduceEq, ↓reduceIte, Nat.reduceEqDiff, Nat.reduceAdd, Nat.reduceMul, Nat.reduceLeDiff, Nat.reduceSub, Nat.reduceLT, Int.reduceToNat, Int.reduceLT, Int.reduceLE, reduceCtorEq]))
          · skip
            try simp only [r22_0, r22_1, r22_2, r22_3, r22_4, r22_5, r22_6, r22_7, r22_9, r22_10, r22_11, r22_8, r22_12, c22, F22, l22_0, q6, q5, q0, q1, qm, qn, hlen, c2, qa, p1, go_sem, Int.reduceTMod, Int.reduceTDiv, Int.reduceDiv, Int.reduceMod, Int.reduceAdd, Int.reduceSub, Int.reduceMul, Int.reduceNeg, Int.reducePow, Int.reduceEq, ↓reduceIte, Nat.reduceEqDiff, Nat.reduceAdd, Nat.reduceMul, Nat.reduceLeDiff, Nat.reduceSub, Nat.reduceLT, Int.reduceToNat, Int.reduceLT, Int.reduceLE, reduceCtorEq]
            repeat' ((first | refine FK_split (fun h_ => ?_) (fun h_ => ?_) | refine GK_split (fun h_ => ?_) (fun h_ => ?_) | refine ite_both (fun h_ => ?_) (fun h_ => ?_)) <;> (try simp only [decide_eq_true_eq, decide_eq_false_iff_not, Bool.not_true, Bool.not_false, Bool.not_eq_true', Bool.not_eq_false', Bool.not_eq_eq_eq_not, Decidable.not_not] at h_) <;> (try simp only [r22_0, r22_1, r22_2, r22_3, r22_4, r22_5, r22_6, r22_7, r22_9, r22_10, r22_11, r22_8, r22_12, c22, F22, l22_0, q6, q5, q0, q1, qm, qn, hlen, c2, qa, p1, h_, go_sem, Int.reduceTMod, Int.reduceTDiv, Int.reduceDiv, Int.reduceMod, Int.reduceAdd, Int.reduceSub, Int.reduceMul, Int.reduceNeg, Int.reducePow, Int.reduceEq, ↓reduceIte, Nat.reduceEqDiff, Nat.reduceAdd, Nat.reduceMul, Nat.reduceLeDiff, Nat.reduceSub, Nat.reduceLT, Int.reduceToNat, Int.reduceLT, Int.reduceLE, reduceCtorEq]))
        · exact ⟨w6, by rw [w5, List.take_zero]; rfl, w0, w1, wm, wn, by rw [List.take_zero]; rfl⟩
      rcases g1 with h | h | h | h
      all_goals
        rw [h] at hlen
        try simp only [r22_0, r22_1, r22_2, r22_3, r22_4, r22_5, r22_6, r22_7, r22_9, r22_10, r22_11, r22_8, r22_12, c22, F22, hlen, go_sem, Int.reduceTMod, Int.reduceTDiv, Int.reduceDiv, Int.reduceMod, Int.reduceAdd, Int.reduceSub, Int.reduceMul, Int.reduceNeg, Int.reducePow, Int.reduceEq, ↓reduceIte, Nat.reduceEqDiff, Nat.reduceAdd, Nat.reduceMul, Nat.reduceLeDiff, Nat.reduceSub, Nat.reduceLT, Int.reduceToNat, Int.reduceLT, Int.reduceLE, reduceCtorEq]
        repeat' ((first | refine FK_split (fun h_ => ?_) (fun h_ => ?_) | refine GK_split (fun h_ => ?_) (fun h_ => ?_) | refine ite_both (fun h_ => ?_) (fun h_ => ?_)) <;> (try simp only [decide_eq_true_eq, decide_eq_false_iff_not, Bool.not_true, Bool.not_false, Bool.not_eq_true', Bool.not_eq_false', Bool.not_eq_eq_eq_not, Decidable.not_not] at h_) <;> (try simp only [r22_0, r22_1, r22_2, r22_3, r22_4, r22_5, r22_6, r22_7, r22_9, r22_10, r22_11, r22_8, r22_12, c22, F22, hlen, h_, go_sem, Int.reduceTMod, Int.reduceTDiv, Int.reduceDiv, Int.reduceMod, Int.reduceAdd, Int.reduceSub, Int.reduceMul, Int.reduceNeg, Int.reducePow, Int.reduceEq, ↓reduceIte, Nat.reduceEqDiff, Nat.reduceAdd, Nat.reduceMul, Nat.reduceLeDiff, Nat.reduceSub, Nat.reduceLT, Int.reduceToNat, Int.reduceLT, Int.reduceLE, reduceCtorEq]))
        refine hloop _ ?_ ?_ ?_ ?_ ?_ ?_
        all_goals simp only [go_sem, Int.reduceTMod, Int.reduceTDiv, Int.reduceDiv, Int.reduceMod, Int.reduceAdd, Int.reduceSub, Int.reduceMul, Int.reduceNeg, Int.reducePow, Int.reduceEq, ↓reduceIte, Nat.reduceEqDiff, Nat.reduceAdd, Nat.reduceMul, Nat.reduceLeDiff, Nat.reduceSub, Nat.reduceLT, Int.reduceToNat, Int.reduceLT, Int.reduceLE, reduceCtorEq]
    · have e2 : rightB l ph = false := by unfold rightB; rw [if_neg e, if_neg g1]
      have f1 : ((l.length : Int) = 2) = False := eq_false (by omega)
      have f2 : ((l.length : Int) = 4) = False := eq_false (by omega)
      have f3 : ((l.length : Int) = 6) = False := eq_false (by omega)
      have f4 : ((l.length : Int) = 8) = False := eq_false (by omega)
      try simp only [r22_0, r22_1, r22_2, r22_3, r22_4, r22_5, r22_6, r22_7, r22_9, r22_10, r22_11, r22_8, r22_12, c22, F22, hlen, g0', f1, f2, f3, f4, e2, go_sem, Int.reduceTMod, Int.reduceTDiv, Int.reduceDiv, Int.reduceMod, Int.reduceAdd, Int.reduceSub, Int.reduceMul, Int.reduceNeg, Int.reducePow, Int.reduceEq, ↓reduceIte, Nat.reduceEqDiff, Nat.reduceAdd, Nat.reduceMul, Nat.reduceLeDiff, Nat.reduceSub, Nat.reduceLT, Int.reduceToNat, Int.reduceLT, Int.reduceLE, reduceCtorEq]
      repeat' ((first | refine FK_split (fun h_ => ?_) (fun h_ => ?_) | refine GK_split (fun h_ => ?_) (fun h_ => ?_) | refine ite_both (fun h_ => ?_) (fun h_ => ?_)) <;> (try simp only [decide_eq_true_eq, decide_eq_false_iff_not, Bool.not_true, Bool.not_false, Bool.not_eq_true', Bool.not_eq_false', Bool.not_eq_eq_eq_not, Decidable.not_not] at h_) <;> (try simp only [r22_0, r22_1, r22_2, r22_3, r22_4, r22_5, r22_6, r22_7, r22_9, r22_10, r22_11, r22_8, r22_12, c22, F22, hlen, g0', f1, f2, f3, f4, e2, h_, go_sem, Int.reduceTMod, Int.reduceTDiv, Int.reduceDiv, Int.reduceMod, Int.reduceAdd, Int.reduceSub, Int.reduceMul, Int.reduceNeg, Int.reducePow, Int.reduceEq, ↓reduceIte, Nat.reduceEqDiff, Nat.reduceAdd, Nat.reduceMul, Nat.reduceLeDiff, Nat.reduceSub, Nat.reduceLT, Int.reduceToNat, Int.reduceLT, Int.reduceLE, reduceCtorEq]))
theorem v_Right (r : Reg) (l : List Int) (ph : Int) (m : Mem) (n : Nat) (hr : RIn m n r l) (hl : l.length < 4294967296) : callF TA 22 [r, RI ph] m n = some (RB (rightB l ph)) := v_RightA r l ph m n hr
end Go.Proofs.Ytffhhgcgnillaaa.Sy
