/- How often a closed line goes round a place, walked: the reference's. Conditions: those that each theorem names. -/
import Derived.Test.YtkdbnmohpanpfaaCoA
namespace Go.Proofs.Ytkdbnmohpanpfaa.Sy
open Go Go.Proofs
set_option linter.unusedSimpArgs false
set_option linter.unusedVariables false
set_option maxRecDepth 20000
attribute [local go_sem] XK_seq XK_block XK_skip XK_exit XK_ret XK_cond XK_reg XK_dreg XK_ureg KN_seq KN_blk KN_lp KN_chk KN_chku KN_top KN_fin KX_seq KX_lp KX_blk KX_chk KX_top KR_seq KR_blk KR_lp KR_chk KR_top KR_fin FK_true FK_false RK_nil RK_mv RK_pick RK_alloc RK_box RK_build RK_bslice RK_load1 RK_loadA RK_store RK_nilchk RK_bin RK_beq RK_eqv RK_eqnil RK_un RK_conv RK_mkfn RK_mkslice RK_slS RK_slA RK_fadr RK_fld RK_iadrA RK_iadrS RK_idxA RK_istr RK_ext RK_lenC RK_cap RK_app RK_appz RK_pre RK_cpy RK_mn RK_mx RK_len RK_carry RK_clr carryR um0 um1 ThenK_some RK_guard GK_tt GK_ff GK_tf GK_ft GK_none QK_some RK_callQ RK_callZ RK_callT TK_some VK_clo RK_callV
  evalOp evO evOs upd_at unfrz_at putE_some putE_none boolOf_b boolOf_tup Option.map_some evRes pack_one pack_two pack_three pack_none List.getD_cons_zero List.getD_cons_succ getD_nil
  Option.some.injEq exists_eq_left' Reg.cs? fillC setL List.set_cons_zero List.set_cons_succ List.length_cons List.length_nil rd_upd rd_updn rdB wr List.drop_zero List.drop_succ_cons List.take_succ_cons List.take_zero List.getElem?_cons_zero List.getElem?_cons_succ
  ix Int.toNat_zero lenO_sl lenO_nil nadd na_eq na_eq' na_lt na_ee na_ll na_ne na_ne' na_tt
attribute [local go_sem] Reg.flat_one Reg.flat_agg Reg.flat_tup flats_nil flats_cons Cell.flat_sc Cell.flat_ptr List.all_cons List.all_nil disOk safeOk safeR decide_eq_true_eq decide_eq_false_iff_not
  List.map_cons List.map_nil List.cons_append List.nil_append List.append_nil evalOp.capsOf Bool.false_bne Bool.bne_false Bool.true_bne Bool.bne_true bne_self_eq_false beq_self_eq_true Bool.not_not Bool.false_and Bool.and_false Bool.true_or Bool.or_true beq_iff_eq eqCells
  Bool.true_beq Bool.false_beq Bool.not_eq_true' Bool.not_eq_eq_eq_not Bool.not_eq_false' and_false false_and frz_at idOf noId Option.isSome_some Bool.and_eq_true
attribute [local go_sem] wr_eq bV_add bV_sub bV_mul bV_eql bV_neq bV_lss bV_leq bV_gtr bV_geq bV_quo bV_rem bV_shr bV_shl uV_not uV_neg wrapU bits_and bits_or bits_xor IntKind.bits Nat.min_eq_left Nat.min_eq_right Nat.min_self
attribute [local go_sem] bne_iff_ne Int.cast_ofNat_Int Nat.zero_add Nat.add_zero and_self and_true true_and ne_eq not_false_eq_true not_true_eq_false decide_true decide_false Bool.false_eq_true Bool.not_true Bool.not_false Bool.true_and Bool.and_true Bool.or_false Bool.false_or Bool.and_self

def eT (l : List Pt) (s : Pt) (i j : Nat) : Int := match l[i]?, l[j]? with | some p, some q => edgeW p q s | _, _ => 0
theorem windsTo_s (l : List Pt) (s : Pt) (i : Nat) : windsTo l s (i + 1) = windsTo l s i + eT l s ((i + l.length - 1) % l.length) i := rfl
theorem eT_bd (l : List Pt) (s : Pt) (i j : Nat) : -1 ≤ eT l s i j ∧ eT l s i j ≤ 1 := by
  unfold eT
  split
  · unfold edgeW; split <;> (try split) <;> omega
  · omega
/-- The edges from the places below i. -/
def refTo (l : List Pt) (s : Pt) : Nat → Int
  | 0 => 0
  | i + 1 => refTo l s i + eT l s i (if i + 1 < l.length then i + 1 else 0)
def linTo (l : List Pt) (s : Pt) : Nat → Int
  | 0 => 0
  | i + 1 => linTo l s i + eT l s i (i + 1)
theorem refTo_lin (l : List Pt) (s : Pt) : ∀ k, k + 1 ≤ l.length → refTo l s k = linTo l s k
  | 0, _ => rfl
  | k + 1, h => by
    simp only [refTo, linTo]
    rw [refTo_lin l s k (by omega), if_pos (by omega)]
theorem windsTo_lin (l : List Pt) (s : Pt) : ∀ k, k + 1 ≤ l.length → windsTo l s (k + 1) = eT l s (l.length - 1) 0 + linTo l s k
  | 0, h => by
    rw [windsTo_s, Nat.zero_add, Nat.mod_eq_of_lt (by omega)]
    simp only [windsTo, linTo, Int.add_zero, Int.zero_add]
  | k + 1, h => by
    rw [windsTo_s, windsTo_lin l s k (by omega), linTo]
    have e : (k + 1 + l.length - 1) % l.length = k := by
      rw [show k + 1 + l.length - 1 = k + l.length by omega, Nat.add_mod_right]
      exact Nat.mod_eq_of_lt (by omega)
    rw [e]
    omega
theorem winds_ref (l : List Pt) (s : Pt) : refTo l s l.length = windsTo l s l.length := by
  cases hl : l.length with
  | zero => rfl
  | succ k =>
    rw [windsTo_lin l s k (by omega), refTo, refTo_lin l s k (by omega), if_neg (by omega)]
    rw [show l.length - 1 = k by omega]
    omega
theorem ref_bd (l : List Pt) (s : Pt) : ∀ i : Nat, -(i : Int) ≤ refTo l s i ∧ refTo l s i ≤ i
  | 0 => by simp [refTo]
  | i + 1 => by
    have h := ref_bd l s i
    have he := eT_bd l s i (if i + 1 < l.length then i + 1 else 0)
    rw [refTo]
    omega
theorem v_rWinds (r : Reg) (l : List Pt) (s : Pt) (m : Mem) (n : Nat) (hr : RPt m n r l) (hl : l.length < 1000000) (hi : l.all inP = true) (hs : inP s = true) : callF TA 39 [r, .agg [I s.x, I s.y]] m n = some (RI (windsTo l s l.length)) := by
  rw [← winds_ref]
  refine callF_of (Fn_ofK (fn := F39) rfl (by simp [F39]) ?_)
  have hlen := hr.len
  have hs' : inP ⟨s.x, s.y⟩ = true := hs
  simp only [inP, Bool.and_eq_true] at hs'
  try simp only [r39_0, r39_1, r39_2, r39_3, r39_5, r39_6, r39_7, r39_8, r39_9, r39_10, r39_11, r39_4, r39_12, c39, F39, go_sem, Int.reduceTMod, Int.reduceTDiv, Int.reduceDiv, Int.reduceMod, Int.reduceAdd, Int.reduceSub, Int.reduceMul, Int.reduceNeg, Int.reducePow, Int.reduceEq, ↓reduceIte, Nat.reduceEqDiff, Nat.reduceAdd, Nat.reduceMul, Nat.reduceLeDiff, Nat.reduceSub, Nat.reduceLT, Int.reduceToNat, Int.reduceLT, Int.reduceLE, reduceCtorEq]
  repeat' ((first | refine FK_split (fun h_ => ?_) (fun h_ => ?_) | refine GK_split (fun h_ => ?_) (fun h_ => ?_) | refine ite_both (fun h_ => ?_) (fun h_ => ?_)) <;> (try simp only [decide_eq_true_eq, decide_eq_false_iff_not, Bool.not_true, Bool.not_false, Bool.not_eq_true', Bool.not_eq_false', Bool.not_eq_eq_eq_not, Decidable.not_not] at h_) <;> (try simp only [r39_0, r39_1, r39_2, r39_3, r39_5, r39_6, r39_7, r39_8, r39_9, r39_10, r39_11, r39_4, r39_12, c39, F39, h_, go_sem, Int.reduceTMod, Int.reduceTDiv, Int.reduceDiv, Int.reduceMod, Int.reduceAdd, Int.reduceSub, Int.reduceMul, Int.reduceNeg, Int.reducePow, Int.reduceEq, ↓reduceIte, Nat.reduceEqDiff, Nat.reduceAdd, Nat.reduceMul, Nat.reduceLeDiff, Nat.reduceSub, Nat.reduceLT, Int.reduceToNat, Int.reduceLT, Int.reduceLE, reduceCtorEq]))
  refine XK_iter (inv := fun i t => t.e 6 = RI i ∧ t.e 0 = r ∧ t.e 3 = .one (.ptr n 0) ∧ t.e 5 = RI (refTo l s i) ∧ n + 1 ≤ t.n ∧ (∀ id, id < n → t.m id = m id) ∧ t.m n = some ⟨[I s.x, I s.y], true⟩) l.length
    (fun L _ => ⟨fun i hi' t ht next => ?_, fun t ht => ?_⟩) 0 (by omega) _ ⟨?_, ?_, ?_, ?_, ?_, fun id hid => ?_, ?_⟩
  · obtain ⟨e, M, N⟩ := t
    obtain ⟨q6, q0, q3, q5, qn, qm, qs⟩ := ht
    simp only at q6 q0 q3 q5 qn qm qs
    have hr2 : RPt M N r l := hr.keep (by omega) qm
    have hp : l[i]? = some l[i] := List.getElem?_eq_getElem hi'
    have hz : l[0]? = some (l[0]'(by omega)) := List.getElem?_eq_getElem (by omega)
    obtain ⟨id, off, cap, hr1, hid, hrd⟩ := hr2.at cs2 hp
    obtain ⟨id', off', cap', hr1', _, hrz⟩ := hr2.at cs2 hz
    rw [hr1] at hr1'
    simp only [Reg.one.injEq, Cell.sl.injEq, true_and] at hr1'
    obtain ⟨rfl, rfl, rfl, _⟩ := hr1'
    rw [Nat.zero_mul, Nat.add_zero] at hrz
    obtain ⟨bb, hbb, _⟩ := rd_cell hrd (a := 0) (c := I l[i].x) rfl
    have ip : inP ⟨l[i].x, l[i].y⟩ = true := List.all_eq_true.1 hi _ (List.getElem_mem hi')
    have c1 : ((0 : Int) < (l.length : Int)) = True := eq_true (by omega)
    have c2 : ((i : Int) < (l.length : Int)) = True := eq_true (by omega)
    have c3 : (0 ≤ (i : Int)) = True := eq_true (by omega)
    have c7 : IntKind.i64.wrap ((i : Int) + 1) = ((i + 1 : Nat) : Int) := wr_nat (by omega)
    have c8 : (0 ≤ ((i + 1 : Nat) : Int)) = True := eq_true (by omega)
    have hb := ref_bd l s i
    have n1 := na_0 hid
    have n2 := na_0 (show n < N by omega)
    have n3 : ∀ k, (id = N + k) = False := fun k => na_ne hid
    have n4 : ∀ k, (n = N + k) = False := fun k => na_ne (show n < N by omega)
    have w1' : IntKind.i64.wrap (refTo l s i + 1) = refTo l s i + 1 := wr_eq (by omega) (by omega)
    have w2' : IntKind.i64.wrap (refTo l s i - 1) = refTo l s i - 1 := wr_eq (by omega) (by omega)
    rw [hr1] at q0
    have hlen' : lenO (.one (.sl id off l.length cap 2)) = some (l.length : Int) := rfl
    -- the next point
    obtain ⟨q, hq, hw⟩ : ∃ q, l[if i + 1 < l.length then i + 1 else 0]? = some q ∧ refTo l s (i + 1) = refTo l s i + edgeW l[i] q s := by
      have hlt : (if i + 1 < l.length then i + 1 else 0) < l.length := by split <;> omega
      refine ⟨_, List.getElem?_eq_getElem hlt, ?_⟩
      rw [refTo, eT, hp, List.getElem?_eq_getElem hlt]
    have iq : inP ⟨q.x, q.y⟩ = true := List.all_eq_true.1 hi _ (List.mem_of_getElem? hq)
    have vs := v_rSide l[i].x l[i].y q.x q.y s.x s.y (by simp only [inP, Bool.and_eq_true] at ip; exact ip.1) (by simp only [inP, Bool.and_eq_true] at ip; exact ip.2) (by simp only [inP, Bool.and_eq_true] at iq; exact iq.1) (by simp only [inP, Bool.and_eq_true] at iq; exact iq.2) hs'.1 hs'.2
    rw [show cross l[i].x l[i].y q.x q.y s.x s.y = crossP l[i] q s from rfl] at vs
    generalize refTo l s (i + 1) = w1 at *
    generalize refTo l s i = w0 at *
    generalize (l[0]'(by omega)) = z at *
    generalize l[i] = p at *
    unfold edgeW at hw
    by_cases hc : i + 1 < l.length
    · have c9 : (((i + 1 : Nat) : Int) < (l.length : Int)) = True := eq_true (by omega)
      rw [if_pos hc] at hq
      obtain ⟨id', off', cap', hr1', _, hrq⟩ := hr2.at cs2 hq
      rw [hr1] at hr1'
      simp only [Reg.one.injEq, Cell.sl.injEq, true_and] at hr1'
      obtain ⟨rfl, rfl, rfl, _⟩ := hr1'
      try simp only [r39_0, r39_1, r39_2, r39_3, r39_5, r39_6, r39_7, r39_8, r39_9, r39_10, r39_11, r39_4, r39_12, c39, F39, l39_0, XK_ureg, q6, q0, q3, q5, c1, c2, c3, c7, c8, c9, hlen', hrd, hrz, hrq, hbb, qs, rd_of qs, n1, n2, n3, n4, vs, w1', w2', sgW_pos, sgW_neg, Int.toNat_natCast, Int.toNat_zero, Nat.zero_mul, Nat.add_zero, go_sem, Int.reduceTMod, Int.reduceTDiv, Int.reduceDiv, Int.reduceMod, Int.reduceAdd, Int.reduceSub, Int.reduceMul, Int.reduceNeg, Int.reducePow, Int.reduceEq, ↓reduceIte, Nat.reduceEqDiff, Nat.reduceAdd, Nat.reduceMul, Nat.reduceLeDiff, Nat.reduceSub, Nat.reduceLT, Int.reduceToNat, Int.reduceLT, Int.reduceLE, reduceCtorEq]
      repeat' ((first | refine FK_split (fun h_ => ?_) (fun h_ => ?_) | refine GK_split (fun h_ => ?_) (fun h_ => ?_) | refine ite_both (fun h_ => ?_) (fun h_ => ?_)) <;> (try simp only [decide_eq_true_eq, decide_eq_false_iff_not, Bool.not_true, Bool.not_false, Bool.not_eq_true', Bool.not_eq_false', Bool.not_eq_eq_eq_not, Decidable.not_not] at h_) <;> (try simp only [r39_0, r39_1, r39_2, r39_3, r39_5, r39_6, r39_7, r39_8, r39_9, r39_10, r39_11, r39_4, r39_12, c39, F39, l39_0, XK_ureg, q6, q0, q3, q5, c1, c2, c3, c7, c8, c9, hlen', hrd, hrz, hrq, hbb, qs, rd_of qs, n1, n2, n3, n4, vs, w1', w2', sgW_pos, sgW_neg, Int.toNat_natCast, Int.toNat_zero, Nat.zero_mul, Nat.add_zero, h_, go_sem, Int.reduceTMod, Int.reduceTDiv, Int.reduceDiv, Int.reduceMod, Int.reduceAdd, Int.reduceSub, Int.reduceMul, Int.reduceNeg, Int.reducePow, Int.reduceEq, ↓reduceIte, Nat.reduceEqDiff, Nat.reduceAdd, Nat.reduceMul, Nat.reduceLeDiff, Nat.reduceSub, Nat.reduceLT, Int.reduceToNat, Int.reduceLT, Int.reduceLE, reduceCtorEq]))
      all_goals
        refine next _ ⟨?_, ?_, ?_, ?_, ?_, fun id2 hid2 => ?_, ?_⟩
        · simp only [go_sem, Int.reduceTMod, Int.reduceTDiv, Int.reduceDiv, Int.reduceMod, Int.reduceAdd, Int.reduceSub, Int.reduceMul, Int.reduceNeg, Int.reducePow, Int.reduceEq, ↓reduceIte, Nat.reduceEqDiff, Nat.reduceAdd, Nat.reduceMul, Nat.reduceLeDiff, Nat.reduceSub, Nat.reduceLT, Int.reduceToNat, Int.reduceLT, Int.reduceLE, reduceCtorEq]
        · simp only [q0, hr1, go_sem, Int.reduceTMod, Int.reduceTDiv, Int.reduceDiv, Int.reduceMod, Int.reduceAdd, Int.reduceSub, Int.reduceMul, Int.reduceNeg, Int.reducePow, Int.reduceEq, ↓reduceIte, Nat.reduceEqDiff, Nat.reduceAdd, Nat.reduceMul, Nat.reduceLeDiff, Nat.reduceSub, Nat.reduceLT, Int.reduceToNat, Int.reduceLT, Int.reduceLE, reduceCtorEq]
        · simp only [q3, go_sem, Int.reduceTMod, Int.reduceTDiv, Int.reduceDiv, Int.reduceMod, Int.reduceAdd, Int.reduceSub, Int.reduceMul, Int.reduceNeg, Int.reducePow, Int.reduceEq, ↓reduceIte, Nat.reduceEqDiff, Nat.reduceAdd, Nat.reduceMul, Nat.reduceLeDiff, Nat.reduceSub, Nat.reduceLT, Int.reduceToNat, Int.reduceLT, Int.reduceLE, reduceCtorEq]
        · simp only [q5, go_sem, Int.reduceTMod, Int.reduceTDiv, Int.reduceDiv, Int.reduceMod, Int.reduceAdd, Int.reduceSub, Int.reduceMul, Int.reduceNeg, Int.reducePow, Int.reduceEq, ↓reduceIte, Nat.reduceEqDiff, Nat.reduceAdd, Nat.reduceMul, Nat.reduceLeDiff, Nat.reduceSub, Nat.reduceLT, Int.reduceToNat, Int.reduceLT, Int.reduceLE, reduceCtorEq]
          refine congrArg (fun x => Reg.one (Cell.sc (Value.int IntKind.i64 x))) ?_
          rw [hw]
          repeat' split
          all_goals omega
        · simp only [go_sem, Int.reduceTMod, Int.reduceTDiv, Int.reduceDiv, Int.reduceMod, Int.reduceAdd, Int.reduceSub, Int.reduceMul, Int.reduceNeg, Int.reducePow, Int.reduceEq, ↓reduceIte, Nat.reduceEqDiff, Nat.reduceAdd, Nat.reduceMul, Nat.reduceLeDiff, Nat.reduceSub, Nat.reduceLT, Int.reduceToNat, Int.reduceLT, Int.reduceLE, reduceCtorEq]
          omega
        · simp only [na_0 (show id2 < N by omega), na_ne (show id2 < N by omega), go_sem, Int.reduceTMod, Int.reduceTDiv, Int.reduceDiv, Int.reduceMod, Int.reduceAdd, Int.reduceSub, Int.reduceMul, Int.reduceNeg, Int.reducePow, Int.reduceEq, ↓reduceIte, Nat.reduceEqDiff, Nat.reduceAdd, Nat.reduceMul, Nat.reduceLeDiff, Nat.reduceSub, Nat.reduceLT, Int.reduceToNat, Int.reduceLT, Int.reduceLE, reduceCtorEq]
          exact qm id2 hid2
        · simp only [n2, n4, go_sem, Int.reduceTMod, Int.reduceTDiv, Int.reduceDiv, Int.reduceMod, Int.reduceAdd, Int.reduceSub, Int.reduceMul, Int.reduceNeg, Int.reducePow, Int.reduceEq, ↓reduceIte, Nat.reduceEqDiff, Nat.reduceAdd, Nat.reduceMul, Nat.reduceLeDiff, Nat.reduceSub, Nat.reduceLT, Int.reduceToNat, Int.reduceLT, Int.reduceLE, reduceCtorEq]
          exact qs
    · have c9 : (((i + 1 : Nat) : Int) < (l.length : Int)) = False := eq_false (by omega)
      rw [if_neg hc] at hq
      obtain rfl : z = q := by rw [hz] at hq; exact Option.some.inj hq
      try simp only [r39_0, r39_1, r39_2, r39_3, r39_5, r39_6, r39_7, r39_8, r39_9, r39_10, r39_11, r39_4, r39_12, c39, F39, l39_0, XK_ureg, q6, q0, q3, q5, c1, c2, c3, c7, c8, c9, hlen', hrd, hrz, hbb, qs, rd_of qs, n1, n2, n3, n4, vs, w1', w2', sgW_pos, sgW_neg, Int.toNat_natCast, Int.toNat_zero, Nat.zero_mul, Nat.add_zero, go_sem, Int.reduceTMod, Int.reduceTDiv, Int.reduceDiv, Int.reduceMod, Int.reduceAdd, Int.reduceSub, Int.reduceMul, Int.reduceNeg, Int.reducePow, Int.reduceEq, ↓reduceIte, Nat.reduceEqDiff, Nat.reduceAdd, Nat.reduceMul, Nat.reduceLeDiff, Nat.reduceSub, Nat.reduceLT, Int.reduceToNat, Int.reduceLT, Int.reduceLE, reduceCtorEq]
      repeat' ((first | refine FK_split (fun h_ => ?_) (fun h_ => ?_) | refine GK_split (fun h_ => ?_) (fun h_ => ?_) | refine ite_both (fun h_ => ?_) (fun h_ => ?_)) <;> (try simp only [decide_eq_true_eq, decide_eq_false_iff_not, Bool.not_true, Bool.not_false, Bool.not_eq_true', Bool.not_eq_false', Bool.not_eq_eq_eq_not, Decidable.not_not] at h_) <;> (try simp only [r39_0, r39_1, r39_2, r39_3, r39_5, r39_6, r39_7, r39_8, r39_9, r39_10, r39_11, r39_4, r39_12, c39, F39, l39_0, XK_ureg, q6, q0, q3, q5, c1, c2, c3, c7, c8, c9, hlen', hrd, hrz, hbb, qs, rd_of qs, n1, n2, n3, n4, vs, w1', w2', sgW_pos, sgW_neg, Int.toNat_natCast, Int.toNat_zero, Nat.zero_mul, Nat.add_zero, h_, go_sem, Int.reduceTMod, Int.reduceTDiv, Int.reduceDiv, Int.reduceMod, Int.reduceAdd, Int.reduceSub, Int.reduceMul, Int.reduceNeg, Int.reducePow, Int.reduceEq, ↓reduceIte, Nat.reduceEqDiff, Nat.reduceAdd, Nat.reduceMul, Nat.reduceLeDiff, Nat.reduceSub, Nat.reduceLT, Int.reduceToNat, Int.reduceLT, Int.reduceLE, reduceCtorEq]))
      all_goals
        refine next _ ⟨?_, ?_, ?_, ?_, ?_, fun id2 hid2 => ?_, ?_⟩
        · simp only [go_sem, Int.reduceTMod, Int.reduceTDiv, Int.reduceDiv, Int.reduceMod, Int.reduceAdd, Int.reduceSub, Int.reduceMul, Int.reduceNeg, Int.reducePow, Int.reduceEq, ↓reduceIte, Nat.reduceEqDiff, Nat.reduceAdd, Nat.reduceMul, Nat.reduceLeDiff, Nat.reduceSub, Nat.reduceLT, Int.reduceToNat, Int.reduceLT, Int.reduceLE, reduceCtorEq]
        · simp only [q0, hr1, go_sem, Int.reduceTMod, Int.reduceTDiv, Int.reduceDiv, Int.reduceMod, Int.reduceAdd, Int.reduceSub, Int.reduceMul, Int.reduceNeg, Int.reducePow, Int.reduceEq, ↓reduceIte, Nat.reduceEqDiff, Nat.reduceAdd, Nat.reduceMul, Nat.reduceLeDiff, Nat.reduceSub, Nat.reduceLT, Int.reduceToNat, Int.reduceLT, Int.reduceLE, reduceCtorEq]
        · simp only [q3, go_sem, Int.reduceTMod, Int.reduceTDiv, Int.reduceDiv, Int.reduceMod, Int.reduceAdd, Int.reduceSub, Int.reduceMul, Int.reduceNeg, Int.reducePow, Int.reduceEq, ↓reduceIte, Nat.reduceEqDiff, Nat.reduceAdd, Nat.reduceMul, Nat.reduceLeDiff, Nat.reduceSub, Nat.reduceLT, Int.reduceToNat, Int.reduceLT, Int.reduceLE, reduceCtorEq]
        · simp only [q5, go_sem, Int.reduceTMod, Int.reduceTDiv, Int.reduceDiv, Int.reduceMod, Int.reduceAdd, Int.reduceSub, Int.reduceMul, Int.reduceNeg, Int.reducePow, Int.reduceEq, ↓reduceIte, Nat.reduceEqDiff, Nat.reduceAdd, Nat.reduceMul, Nat.reduceLeDiff, Nat.reduceSub, Nat.reduceLT, Int.reduceToNat, Int.reduceLT, Int.reduceLE, reduceCtorEq]
          refine congrArg (fun x => Reg.one (Cell.sc (Value.int IntKind.i64 x))) ?_
          rw [hw]
          repeat' split
          all_goals omega
        · simp only [go_sem, Int.reduceTMod, Int.reduceTDiv, Int.reduceDiv, Int.reduceMod, Int.reduceAdd, Int.reduceSub, Int.reduceMul, Int.reduceNeg, Int.reducePow, Int.reduceEq, ↓reduceIte, Nat.reduceEqDiff, Nat.reduceAdd, Nat.reduceMul, Nat.reduceLeDiff, Nat.reduceSub, Nat.reduceLT, Int.reduceToNat, Int.reduceLT, Int.reduceLE, reduceCtorEq]
          omega
        · simp only [na_0 (show id2 < N by omega), na_ne (show id2 < N by omega), go_sem, Int.reduceTMod, Int.reduceTDiv, Int.reduceDiv, Int.reduceMod, Int.reduceAdd, Int.reduceSub, Int.reduceMul, Int.reduceNeg, Int.reducePow, Int.reduceEq, ↓reduceIte, Nat.reduceEqDiff, Nat.reduceAdd, Nat.reduceMul, Nat.reduceLeDiff, Nat.reduceSub, Nat.reduceLT, Int.reduceToNat, Int.reduceLT, Int.reduceLE, reduceCtorEq]
          exact qm id2 hid2
        · simp only [n2, n4, go_sem, Int.reduceTMod, Int.reduceTDiv, Int.reduceDiv, Int.reduceMod, Int.reduceAdd, Int.reduceSub, Int.reduceMul, Int.reduceNeg, Int.reducePow, Int.reduceEq, ↓reduceIte, Nat.reduceEqDiff, Nat.reduceAdd, Nat.reduceMul, Nat.reduceLeDiff, Nat.reduceSub, Nat.reduceLT, Int.reduceToNat, Int.reduceLT, Int.reduceLE, reduceCtorEq]
          exact qs
  · obtain ⟨e, M, N⟩ := t
    obtain ⟨q6, q0, q3, q5, qn, qm, qs⟩ := ht
    simp only at q6 q0 q3 q5 qn qm qs
    have c2 : ((l.length : Int) < (l.length : Int)) = False := eq_false (by omega)
    try simp only [r39_0, r39_1, r39_2, r39_3, r39_5, r39_6, r39_7, r39_8, r39_9, r39_10, r39_11, r39_4, r39_12, c39, F39, l39_0, q6, q0, q5, hlen, c2, go_sem, Int.reduceTMod, Int.reduceTDiv, Int.reduceDiv, Int.reduceMod, Int.reduceAdd, Int.reduceSub, Int.reduceMul, Int.reduceNeg, Int.reducePow, Int.reduceEq, ↓reduceIte, Nat.reduceEqDiff, Nat.reduceAdd, Nat.reduceMul, Nat.reduceLeDiff, Nat.reduceSub, Nat.reduceLT, Int.reduceToNat, Int.reduceLT, Int.reduceLE, reduceCtorEq]
    repeat' ((first | refine FK_split (fun h_ => ?_) (fun h_ => ?_) | refine GK_split (fun h_ => ?_) (fun h_ => ?_) | refine ite_both (fun h_ => ?_) (fun h_ => ?_)) <;> (try simp only [decide_eq_true_eq, decide_eq_false_iff_not, Bool.not_true, Bool.not_false, Bool.not_eq_true', Bool.not_eq_false', Bool.not_eq_eq_eq_not, Decidable.not_not] at h_) <;> (try simp only [r39_0, r39_1, r39_2, r39_3, r39_5, r39_6, r39_7, r39_8, r39_9, r39_10, r39_11, r39_4, r39_12, c39, F39, l39_0, q6, q0, q5, hlen, c2, h_, go_sem, Int.reduceTMod, Int.reduceTDiv, Int.reduceDiv, Int.reduceMod, Int.reduceAdd, Int.reduceSub, Int.reduceMul, Int.reduceNeg, Int.reducePow, Int.reduceEq, ↓reduceIte, Nat.reduceEqDiff, Nat.reduceAdd, Nat.reduceMul, Nat.reduceLeDiff, Nat.reduceSub, Nat.reduceLT, Int.reduceToNat, Int.reduceLT, Int.reduceLE, reduceCtorEq]))
  · simp only [go_sem, Int.reduceTMod, Int.reduceTDiv, Int.reduceDiv, Int.reduceMod, Int.reduceAdd, Int.reduceSub, Int.reduceMul, Int.reduceNeg, Int.reducePow, Int.reduceEq, ↓reduceIte, Nat.reduceEqDiff, Nat.reduceAdd, Nat.reduceMul, Nat.reduceLeDiff, Nat.reduceSub, Nat.reduceLT, Int.reduceToNat, Int.reduceLT, Int.reduceLE, reduceCtorEq]
  · simp only [go_sem, Int.reduceTMod, Int.reduceTDiv, Int.reduceDiv, Int.reduceMod, Int.reduceAdd, Int.reduceSub, Int.reduceMul, Int.reduceNeg, Int.reducePow, Int.reduceEq, ↓reduceIte, Nat.reduceEqDiff, Nat.reduceAdd, Nat.reduceMul, Nat.reduceLeDiff, Nat.reduceSub, Nat.reduceLT, Int.reduceToNat, Int.reduceLT, Int.reduceLE, reduceCtorEq]
  · simp only [go_sem, Int.reduceTMod, Int.reduceTDiv, Int.reduceDiv, Int.reduceMod, Int.reduceAdd, Int.reduceSub, Int.reduceMul, Int.reduceNeg, Int.reducePow, Int.reduceEq, ↓reduceIte, Nat.reduceEqDiff, Nat.reduceAdd, Nat.reduceMul, Nat.reduceLeDiff, Nat.reduceSub, Nat.reduceLT, Int.reduceToNat, Int.reduceLT, Int.reduceLE, reduceCtorEq]
  · simp only [refTo, go_sem, Int.reduceTMod, Int.reduceTDiv, Int.reduceDiv, Int.reduceMod, Int.reduceAdd, Int.reduceSub, Int.reduceMul, Int.reduceNeg, Int.reducePow, Int.reduceEq, ↓reduceIte, Nat.reduceEqDiff, Nat.reduceAdd, Nat.reduceMul, Nat.reduceLeDiff, Nat.reduceSub, Nat.reduceLT, Int.reduceToNat, Int.reduceLT, Int.reduceLE, reduceCtorEq]
  · simp only [go_sem, Int.reduceTMod, Int.reduceTDiv, Int.reduceDiv, Int.reduceMod, Int.reduceAdd, Int.reduceSub, Int.reduceMul, Int.reduceNeg, Int.reducePow, Int.reduceEq, ↓reduceIte, Nat.reduceEqDiff, Nat.reduceAdd, Nat.reduceMul, Nat.reduceLeDiff, Nat.reduceSub, Nat.reduceLT, Int.reduceToNat, Int.reduceLT, Int.reduceLE, reduceCtorEq]
    omega
  · simp only [na_0 hid, na_ne hid, go_sem, Int.reduceTMod, Int.reduceTDiv, Int.reduceDiv, Int.reduceMod, Int.reduceAdd, Int.reduceSub, Int.reduceMul, Int.reduceNeg, Int.reducePow, Int.reduceEq, ↓reduceIte, Nat.reduceEqDiff, Nat.reduceAdd, Nat.reduceMul, Nat.reduceLeDiff, Nat.reduceSub, Nat.reduceLT, Int.reduceToNat, Int.reduceLT, Int.reduceLE, reduceCtorEq]
  · simp only [go_sem, Int.reduceTMod, Int.reduceTDiv, Int.reduceDiv, Int.reduceMod, Int.reduceAdd, Int.reduceSub, Int.reduceMul, Int.reduceNeg, Int.reducePow, Int.reduceEq, ↓reduceIte, Nat.reduceEqDiff, Nat.reduceAdd, Nat.reduceMul, Nat.reduceLeDiff, Nat.reduceSub, Nat.reduceLT, Int.reduceToNat, Int.reduceLT, Int.reduceLE, reduceCtorEq]
end Go.Proofs.Ytkdbnmohpanpfaa.Sy
