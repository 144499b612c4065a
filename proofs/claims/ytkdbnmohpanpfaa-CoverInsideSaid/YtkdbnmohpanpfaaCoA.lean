/- How often a closed line goes round a place, walked: the program's. Conditions: those that each theorem names. -/
import Derived.Test.YtkdbnmohpanpfaaGeA
import Derived.Test.YtkdbnmohpanpfaaFxA
import Derived.Test.YtkdbnmohpanpfaaSlA
import Derived.Test.YtkdbnmohpanpfaaR3A
namespace Go.Proofs.Ytkdbnmohpanpfaa.Sy
open Go Go.Proofs
set_option linter.unusedSimpArgs false
set_option linter.unusedVariables false
set_option maxRecDepth 20000
attribute [local go_sem] XK_seq XK_block XK_skip XK_exit XK_ret XK_cond XK_reg XK_dreg XK_ureg KN_seq KN_blk KN_lp KN_chk KN_chku KN_top KN_fin KX_seq KX_lp KX_blk KX_chk KX_top KR_seq KR_blk KR_lp KR_chk KR_top KR_fin FK_true FK_false RK_nil RK_mv RK_pick RK_alloc RK_box RK_build RK_bslice RK_load1 RK_loadA RK_store RK_nilchk RK_bin RK_beq RK_eqv RK_eqnil RK_un RK_conv RK_mkfn RK_mkslice RK_slS RK_slA RK_fadr RK_fld RK_iadrA RK_iadrS RK_idxA RK_istr RK_ext RK_lenC RK_cap RK_app RK_appz RK_pre RK_cpy RK_mn RK_mx RK_len RK_carry RK_clr carryR um0 um1 ThenK_some RK_guard GK_tt GK_ff GK_tf GK_ft GK_none QK_some RK_callQ RK_callZ RK_callT TK_some VK_clo RK_callV
  evalOp evO evOs upd_at unfrz_at putE_some putE_none boolOf_b boolOf_tup Option.map_some evRes pack_one pack_two pack_three pack_none List.getD_cons_zero List.getD_cons_succ getD_nil
  Option.some.injEq exists_eq_left' Reg.cs? fillC setL List.set_cons_zero List.set_cons_succ List.length_cons List.length_nil rd_upd rd_updn rdB wr List.drop_zero List.drop_succ_cons List.take_succ_cons List.take_zero List.getElem?_cons_zero List.getElem?_cons_succ
  ix Int.toNat_zero lenO_sl lenO_nil nadd na_eq na_eq' na_lt na_ee na_ll na_ne na_ne' na_tt
attribute [local go_sem] Reg.flat_one Reg.flat_agg Reg.flat_tup flats_nil flats_cons Cell.flat_sc Cell.flat_ptr List.all_cons List.all_nil disOk safeOk safeR decide_eq_true_eq decide_eq_false_iff_not
  List.map_cons List.map_nil List.cons_append List.nil_append List.append_nil evalOp.capsOf Bool.false_bne Bool.bne_false Bool.true_bne Bool.bne_true bne_self_eq_false beq_self_eq_true Bool.not_not Bool.false_and Bool.and_false Bool.true_or Bool.or_true beq_iff_eq eqCells
  Bool.true_beq Bool.false_beq Bool.not_eq_true' Bool.not_eq_eq_eq_not Bool.not_eq_false' and_false false_and frz_at idOf noId Option.isSome_some Bool.and_eq_true
attribute [local go_sem] wr_eq bV_add bV_sub bV_mul bV_eql bV_neq bV_lss bV_leq bV_gtr bV_geq bV_quo bV_rem bV_shr bV_shl uV_not uV_neg wrapU bits_and bits_or bits_xor IntKind.bits Nat.min_eq_left Nat.min_eq_right Nat.min_self
attribute [local go_sem] bne_iff_ne Int.cast_ofNat_Int Nat.zero_add Nat.add_zero and_self and_true true_and ne_eq not_false_eq_true not_true_eq_false decide_true decide_false Bool.false_eq_true Bool.not_true Bool.not_false Bool.true_and Bool.and_true Bool.or_false Bool.false_or Bool.and_self

structure Pt where
  x : Int
  y : Int
abbrev Pt.cs (p : Pt) : List Cell := [I p.x, I p.y]
abbrev Pt.r (p : Pt) : Reg := .agg [I p.x, I p.y]
def inP (p : Pt) : Bool := rm p.x && rm p.y
theorem cs2 (p : Pt) : p.cs.length = 2 := rfl
theorem v_PIn (x y : Int) (m : Mem) (n : Nat) : callF TA 28 [.agg [I x, I y]] m n = some (RB (inP ⟨x, y⟩)) := by
  refine callF_of (Fn_ofK (fn := F28) rfl (by simp [F28]) ?_)
  try simp only [r28_0, r28_1, c28, F28, v_fIn, inP, go_sem, Int.reduceTMod, Int.reduceTDiv, Int.reduceDiv, Int.reduceMod, Int.reduceAdd, Int.reduceSub, Int.reduceMul, Int.reduceNeg, Int.reducePow, Int.reduceEq, ↓reduceIte, Nat.reduceEqDiff, Nat.reduceAdd, Nat.reduceMul, Nat.reduceLeDiff, Nat.reduceSub, Nat.reduceLT, Int.reduceToNat, Int.reduceLT, Int.reduceLE, reduceCtorEq]
  repeat' ((first | refine FK_split (fun h_ => ?_) (fun h_ => ?_) | refine GK_split (fun h_ => ?_) (fun h_ => ?_) | refine ite_both (fun h_ => ?_) (fun h_ => ?_)) <;> (try simp only [decide_eq_true_eq, decide_eq_false_iff_not, Bool.not_true, Bool.not_false, Bool.not_eq_true', Bool.not_eq_false', Bool.not_eq_eq_eq_not, Decidable.not_not] at h_) <;> (try simp only [r28_0, r28_1, c28, F28, v_fIn, inP, h_, go_sem, Int.reduceTMod, Int.reduceTDiv, Int.reduceDiv, Int.reduceMod, Int.reduceAdd, Int.reduceSub, Int.reduceMul, Int.reduceNeg, Int.reducePow, Int.reduceEq, ↓reduceIte, Nat.reduceEqDiff, Nat.reduceAdd, Nat.reduceMul, Nat.reduceLeDiff, Nat.reduceSub, Nat.reduceLT, Int.reduceToNat, Int.reduceLT, Int.reduceLE, reduceCtorEq]))
abbrev RPt := RL Pt.cs 2
def crossP (p q s : Pt) : Int := cross p.x p.y q.x q.y s.x s.y
def edgeW (p q s : Pt) : Int := if (p.y ≤ s.y ∧ s.y < q.y) ∧ 0 < crossP p q s then 1 else if (q.y ≤ s.y ∧ s.y < p.y) ∧ crossP p q s < 0 then -1 else 0
/-- The edges into the places below i. -/
def windsTo (l : List Pt) (s : Pt) : Nat → Int
  | 0 => 0
  | i + 1 => windsTo l s i + (match l[(i + l.length - 1) % l.length]?, l[i]? with | some p, some q => edgeW p q s | _, _ => 0)
theorem sgW_pos {x : Int} : (0 < sgn x) = (0 < x) := by unfold sgn; repeat' split <;> (try simp) <;> omega
theorem sgW_neg {x : Int} : (sgn x < 0) = (x < 0) := by unfold sgn; repeat' split <;> (try simp) <;> omega
theorem winds_bd (l : List Pt) (s : Pt) : ∀ i : Nat, -(i : Int) ≤ windsTo l s i ∧ windsTo l s i ≤ i
  | 0 => by simp [windsTo]
  | i + 1 => by
    have ih := winds_bd l s i
    have he : ∀ p q : Pt, -1 ≤ edgeW p q s ∧ edgeW p q s ≤ 1 := fun p q => by unfold edgeW; repeat' split <;> omega
    rw [windsTo]
    split
    · rename_i p q _ _
      have := he p q
      omega
    · omega
theorem v_Winds (r : Reg) (l : List Pt) (s : Pt) (m : Mem) (n : Nat) (hr : RPt m n r l) (hl : l.length < 1000000) (hi : l.all inP = true) (hs : inP s = true) : callF TA 38 [r, .agg [I s.x, I s.y]] m n = some (RI (windsTo l s l.length)) := by
  refine callF_of (Fn_ofK (fn := F38) rfl (by simp [F38]) ?_)
  have hlen := hr.len
  have hs' : inP ⟨s.x, s.y⟩ = true := hs
  simp only [inP, Bool.and_eq_true] at hs'
  try simp only [r38_0, r38_1, r38_2, r38_3, r38_4, r38_5, r38_6, r38_7, r38_8, r38_9, r38_10, r38_11, c38, F38, hlen, go_sem, Int.reduceTMod, Int.reduceTDiv, Int.reduceDiv, Int.reduceMod, Int.reduceAdd, Int.reduceSub, Int.reduceMul, Int.reduceNeg, Int.reducePow, Int.reduceEq, ↓reduceIte, Nat.reduceEqDiff, Nat.reduceAdd, Nat.reduceMul, Nat.reduceLeDiff, Nat.reduceSub, Nat.reduceLT, Int.reduceToNat, Int.reduceLT, Int.reduceLE, reduceCtorEq]
  repeat' ((first | refine FK_split (fun h_ => ?_) (fun h_ => ?_) | refine GK_split (fun h_ => ?_) (fun h_ => ?_) | refine ite_both (fun h_ => ?_) (fun h_ => ?_)) <;> (try simp only [decide_eq_true_eq, decide_eq_false_iff_not, Bool.not_true, Bool.not_false, Bool.not_eq_true', Bool.not_eq_false', Bool.not_eq_eq_eq_not, Decidable.not_not] at h_) <;> (try simp only [r38_0, r38_1, r38_2, r38_3, r38_4, r38_5, r38_6, r38_7, r38_8, r38_9, r38_10, r38_11, c38, F38, hlen, h_, go_sem, Int.reduceTMod, Int.reduceTDiv, Int.reduceDiv, Int.reduceMod, Int.reduceAdd, Int.reduceSub, Int.reduceMul, Int.reduceNeg, Int.reducePow, Int.reduceEq, ↓reduceIte, Nat.reduceEqDiff, Nat.reduceAdd, Nat.reduceMul, Nat.reduceLeDiff, Nat.reduceSub, Nat.reduceLT, Int.reduceToNat, Int.reduceLT, Int.reduceLE, reduceCtorEq]))
  refine XK_iter (inv := fun i t => t.e 11 = RI i ∧ t.e 10 = RI l.length ∧ t.e 9 = r ∧ t.e 0 = r ∧ t.e 3 = .one (.ptr n 0) ∧ t.e 5 = RI (windsTo l s i) ∧ n + 1 ≤ t.n ∧ (∀ id, id < n → t.m id = m id) ∧ t.m n = some ⟨[I s.x, I s.y], true⟩) l.length
    (fun L _ => ⟨fun i hi' t ht next => ?_, fun t ht => ?_⟩) 0 (by omega) _ ⟨?_, ?_, ?_, ?_, ?_, ?_, ?_, fun id hid => ?_, ?_⟩
  · obtain ⟨e, M, N⟩ := t
    obtain ⟨q11, q10, q9, q0, q3, q5, qn, qm, qs⟩ := ht
    simp only at q11 q10 q9 q0 q3 q5 qn qm qs
    have hr2 : RPt M N r l := hr.keep (by omega) qm
    have hq : l[i]? = some l[i] := List.getElem?_eq_getElem hi'
    have hj : (i + l.length - 1) % l.length < l.length := Nat.mod_lt _ (by omega)
    have hp : l[(i + l.length - 1) % l.length]? = some (l[(i + l.length - 1) % l.length]'hj) := List.getElem?_eq_getElem hj
    obtain ⟨id, off, cap, hr1, hid, hrd⟩ := hr2.at cs2 hq
    obtain ⟨id', off', cap', hr1', _, hrd'⟩ := hr2.at cs2 hp
    rw [hr1] at hr1'
    simp only [Reg.one.injEq, Cell.sl.injEq, true_and] at hr1'
    obtain ⟨rfl, rfl, rfl, _⟩ := hr1'
    have hw : windsTo l s (i + 1) = windsTo l s i + edgeW (l[(i + l.length - 1) % l.length]'hj) l[i] s := by rw [windsTo, hp, hq]
    have iq : inP ⟨l[i].x, l[i].y⟩ = true := List.all_eq_true.1 hi _ (List.getElem_mem hi')
    have ip : inP ⟨(l[(i + l.length - 1) % l.length]'hj).x, (l[(i + l.length - 1) % l.length]'hj).y⟩ = true := List.all_eq_true.1 hi _ (List.getElem_mem hj)
    have c2 : ((i : Int) < (l.length : Int)) = True := eq_true (by omega)
    have c3 : (0 ≤ (i : Int)) = True := eq_true (by omega)
    have c7 : IntKind.i64.wrap ((i : Int) + 1) = ((i + 1 : Nat) : Int) := wr_nat (by omega)
    have d1 : IntKind.i64.wrap ((i : Int) + (l.length : Int)) = (i : Int) + l.length := wr_eq (by omega) (by omega)
    have d2 : IntKind.i64.wrap ((i : Int) + (l.length : Int) - 1) = (i : Int) + l.length - 1 := wr_eq (by omega) (by omega)
    have d3 : ((i : Int) + l.length - 1).tmod (l.length : Int) = (((i + l.length - 1) % l.length : Nat) : Int) := by
      rw [show ((i : Int) + l.length - 1) = ((i + l.length - 1 : Nat) : Int) by omega]
      exact (Int.ofNat_tmod _ _).symm
    have d4 : ((l.length : Int) = 0) = False := eq_false (by omega)
    generalize (i + l.length - 1) % l.length = j at *
    have d5 : ((j : Int) < (l.length : Int)) = True := eq_true (by omega)
    have d6 : (0 ≤ (j : Int)) = True := eq_true (by omega)
    have hb := winds_bd l s i
    generalize windsTo l s (i + 1) = w1 at *
    generalize windsTo l s i = w0 at *
    generalize (l[j]'hj) = p at *
    generalize l[i] = q at *
    simp only [inP, Bool.and_eq_true] at ip iq
    have n1 := na_0 hid
    have n2 := na_0 (show n < N by omega)
    have n3 : ∀ k, (id = N + k) = False := fun k => na_ne hid
    have n4 : ∀ k, (n = N + k) = False := fun k => na_ne (show n < N by omega)
    have vs := v_Side p.x p.y q.x q.y s.x s.y ip.1 ip.2 iq.1 iq.2 hs'.1 hs'.2
    rw [show cross p.x p.y q.x q.y s.x s.y = crossP p q s from rfl] at vs
    have w1' : IntKind.i64.wrap (w0 + 1) = w0 + 1 := wr_eq (by omega) (by omega)
    have w2' : IntKind.i64.wrap (w0 - 1) = w0 - 1 := wr_eq (by omega) (by omega)
    unfold edgeW at hw
    rw [hr1] at q9 q0
    try simp only [r38_0, r38_1, r38_2, r38_3, r38_4, r38_5, r38_6, r38_7, r38_8, r38_9, r38_10, r38_11, c38, F38, l38_0, q11, q10, q9, q0, q3, q5, c2, c3, c7, d1, d2, d3, d4, d5, d6, hrd, hrd', qs, rd_of qs, n1, n2, n3, n4, vs, w1', w2', sgW_pos, sgW_neg, lenO, Int.toNat_natCast, go_sem, Int.reduceTMod, Int.reduceTDiv, Int.reduceDiv, Int.reduceMod, Int.reduceAdd, Int.reduceSub, Int.reduceMul, Int.reduceNeg, Int.reducePow, Int.reduceEq, ↓reduceIte, Nat.reduceEqDiff, Nat.reduceAdd, Nat.reduceMul, Nat.reduceLeDiff, Nat.reduceSub, Nat.reduceLT, Int.reduceToNat, Int.reduceLT, Int.reduceLE, reduceCtorEq]
    repeat' ((first | refine FK_split (fun h_ => ?_) (fun h_ => ?_) | refine GK_split (fun h_ => ?_) (fun h_ => ?_) | refine ite_both (fun h_ => ?_) (fun h_ => ?_)) <;> (try simp only [decide_eq_true_eq, decide_eq_false_iff_not, Bool.not_true, Bool.not_false, Bool.not_eq_true', Bool.not_eq_false', Bool.not_eq_eq_eq_not, Decidable.not_not] at h_) <;> (try simp only [r38_0, r38_1, r38_2, r38_3, r38_4, r38_5, r38_6, r38_7, r38_8, r38_9, r38_10, r38_11, c38, F38, l38_0, q11, q10, q9, q0, q3, q5, c2, c3, c7, d1, d2, d3, d4, d5, d6, hrd, hrd', qs, rd_of qs, n1, n2, n3, n4, vs, w1', w2', sgW_pos, sgW_neg, lenO, Int.toNat_natCast, h_, go_sem, Int.reduceTMod, Int.reduceTDiv, Int.reduceDiv, Int.reduceMod, Int.reduceAdd, Int.reduceSub, Int.reduceMul, Int.reduceNeg, Int.reducePow, Int.reduceEq, ↓reduceIte, Nat.reduceEqDiff, Nat.reduceAdd, Nat.reduceMul, Nat.reduceLeDiff, Nat.reduceSub, Nat.reduceLT, Int.reduceToNat, Int.reduceLT, Int.reduceLE, reduceCtorEq]))
    all_goals
      refine next _ ⟨?_, ?_, ?_, ?_, ?_, ?_, ?_, fun id2 hid2 => ?_, ?_⟩
      · simp only [go_sem, Int.reduceTMod, Int.reduceTDiv, Int.reduceDiv, Int.reduceMod, Int.reduceAdd, Int.reduceSub, Int.reduceMul, Int.reduceNeg, Int.reducePow, Int.reduceEq, ↓reduceIte, Nat.reduceEqDiff, Nat.reduceAdd, Nat.reduceMul, Nat.reduceLeDiff, Nat.reduceSub, Nat.reduceLT, Int.reduceToNat, Int.reduceLT, Int.reduceLE, reduceCtorEq]
      · simp only [q10, go_sem, Int.reduceTMod, Int.reduceTDiv, Int.reduceDiv, Int.reduceMod, Int.reduceAdd, Int.reduceSub, Int.reduceMul, Int.reduceNeg, Int.reducePow, Int.reduceEq, ↓reduceIte, Nat.reduceEqDiff, Nat.reduceAdd, Nat.reduceMul, Nat.reduceLeDiff, Nat.reduceSub, Nat.reduceLT, Int.reduceToNat, Int.reduceLT, Int.reduceLE, reduceCtorEq]
      · simp only [q9, hr1, go_sem, Int.reduceTMod, Int.reduceTDiv, Int.reduceDiv, Int.reduceMod, Int.reduceAdd, Int.reduceSub, Int.reduceMul, Int.reduceNeg, Int.reducePow, Int.reduceEq, ↓reduceIte, Nat.reduceEqDiff, Nat.reduceAdd, Nat.reduceMul, Nat.reduceLeDiff, Nat.reduceSub, Nat.reduceLT, Int.reduceToNat, Int.reduceLT, Int.reduceLE, reduceCtorEq]
      · simp only [q0, hr1, go_sem, Int.reduceTMod, Int.reduceTDiv, Int.reduceDiv, Int.reduceMod, Int.reduceAdd, Int.reduceSub, Int.reduceMul, Int.reduceNeg, Int.reducePow, Int.reduceEq, ↓reduceIte, Nat.reduceEqDiff, Nat.reduceAdd, Nat.reduceMul, Nat.reduceLeDiff, Nat.reduceSub, Nat.reduceLT, Int.reduceToNat, Int.reduceLT, Int.reduceLE, reduceCtorEq]
      · simp only [q3, go_sem, Int.reduceTMod, Int.reduceTDiv, Int.reduceDiv, Int.reduceMod, Int.reduceAdd, Int.reduceSub, Int.reduceMul, Int.reduceNeg, Int.reducePow, Int.reduceEq, ↓reduceIte, Nat.reduceEqDiff, Nat.reduceAdd, Nat.reduceMul, Nat.reduceLeDiff, Nat.reduceSub, Nat.reduceLT, Int.reduceToNat, Int.reduceLT, Int.reduceLE, reduceCtorEq]
      · simp only [q5, go_sem, Int.reduceTMod, Int.reduceTDiv, Int.reduceDiv, Int.reduceMod, Int.reduceAdd, Int.reduceSub, Int.reduceMul, Int.reduceNeg, Int.reducePow, Int.reduceEq, ↓reduceIte, Nat.reduceEqDiff, Nat.reduceAdd, Nat.reduceMul, Nat.reduceLeDiff, Nat.reduceSub, Nat.reduceLT, Int.reduceToNat, Int.reduceLT, Int.reduceLE, reduceCtorEq]
        refine congrArg (fun x => Reg.one (Cell.sc (Value.int IntKind.i64 x))) ?_
        rw [hw]
        repeat' split
        all_goals omega
      · simp only [go_sem, Int.reduceTMod, Int.reduceTDiv, Int.reduceDiv, Int.reduceMod, Int.reduceAdd, Int.reduceSub, Int.reduceMul, Int.reduceNeg, Int.reducePow, Int.reduceEq, ↓reduceIte, Nat.reduceEqDiff, Nat.reduceAdd, Nat.reduceMul, Nat.reduceLeDiff, Nat.reduceSub, Nat.reduceLT, Int.reduceToNat, Int.reduceLT, Int.reduceLE, reduceCtorEq]
        omega
      · simp only [na_0 (show id2 < N by omega), na_ne (show id2 < N by omega), go_sem, Int.reduceTMod, Int.reduceTDiv, Int.reduceDiv, Int.reduceMod, Int.reduceAdd, Int.reduceSub, Int.reduceMul, Int.reduceNeg, Int.reducePow, Int.reduceEq, ↓reduceIte, Nat.reduceEqDiff, Nat.reduceAdd, Nat.reduceMul, Nat.reduceLeDiff, Nat.reduceSub, Nat.reduceLT, Int.reduceToNat, Int.reduceLT, Int.reduceLE, reduceCtorEq]
        exact qm id2 hid2
      · simp only [n2, n4, go_sem, Int.reduceTMod, Int.reduceTDiv, Int.reduceDiv, Int.reduceMod, Int.reduceAdd, Int.reduceSub, Int.reduceMul, Int.reduceNeg, Int.reducePow, Int.reduceEq, ↓reduceIte, Nat.reduceEqDiff, Nat.reduceAdd, Nat.reduceMul, Nat.reduceLeDiff, Nat.reduceSub, Nat.reduceLT, Int.reduceToNat, Int.reduceLT, Int.reduceLE, reduceCtorEq]
        exact qs
  · obtain ⟨e, M, N⟩ := t
    obtain ⟨q11, q10, q9, q0, q3, q5, qn, qm, qs⟩ := ht
    simp only at q11 q10 q9 q0 q3 q5 qn qm qs
    have c2 : ((l.length : Int) < (l.length : Int)) = False := eq_false (by omega)
    try simp only [r38_0, r38_1, r38_2, r38_3, r38_4, r38_5, r38_6, r38_7, r38_8, r38_9, r38_10, r38_11, c38, F38, l38_0, q11, q10, q5, c2, go_sem, Int.reduceTMod, Int.reduceTDiv, Int.reduceDiv, Int.reduceMod, Int.reduceAdd, Int.reduceSub, Int.reduceMul, Int.reduceNeg, Int.reducePow, Int.reduceEq, ↓reduceIte, Nat.reduceEqDiff, Nat.reduceAdd, Nat.reduceMul, Nat.reduceLeDiff, Nat.reduceSub, Nat.reduceLT, Int.reduceToNat, Int.reduceLT, Int.reduceLE, reduceCtorEq]
    repeat' ((first | refine FK_split (fun h_ => ?_) (fun h_ => ?_) | refine GK_split (fun h_ => ?_) (fun h_ => ?_) | refine ite_both (fun h_ => ?_) (fun h_ => ?_)) <;> (try simp only [decide_eq_true_eq, decide_eq_false_iff_not, Bool.not_true, Bool.not_false, Bool.not_eq_true', Bool.not_eq_false', Bool.not_eq_eq_eq_not, Decidable.not_not] at h_) <;> (try simp only [r38_0, r38_1, r38_2, r38_3, r38_4, r38_5, r38_6, r38_7, r38_8, r38_9, r38_10, r38_11, c38, F38, l38_0, q11, q10, q5, c2, h_, go_sem, Int.reduceTMod, Int.reduceTDiv, Int.reduceDiv, Int.reduceMod, Int.reduceAdd, Int.reduceSub, Int.reduceMul, Int.reduceNeg, Int.reducePow, Int.reduceEq, ↓reduceIte, Nat.reduceEqDiff, Nat.reduceAdd, Nat.reduceMul, Nat.reduceLeDiff, Nat.reduceSub, Nat.reduceLT, Int.reduceToNat, Int.reduceLT, Int.reduceLE, reduceCtorEq]))
  · simp only [go_sem, Int.reduceTMod, Int.reduceTDiv, Int.reduceDiv, Int.reduceMod, Int.reduceAdd, Int.reduceSub, Int.reduceMul, Int.reduceNeg, Int.reducePow, Int.reduceEq, ↓reduceIte, Nat.reduceEqDiff, Nat.reduceAdd, Nat.reduceMul, Nat.reduceLeDiff, Nat.reduceSub, Nat.reduceLT, Int.reduceToNat, Int.reduceLT, Int.reduceLE, reduceCtorEq]
  · simp only [go_sem, Int.reduceTMod, Int.reduceTDiv, Int.reduceDiv, Int.reduceMod, Int.reduceAdd, Int.reduceSub, Int.reduceMul, Int.reduceNeg, Int.reducePow, Int.reduceEq, ↓reduceIte, Nat.reduceEqDiff, Nat.reduceAdd, Nat.reduceMul, Nat.reduceLeDiff, Nat.reduceSub, Nat.reduceLT, Int.reduceToNat, Int.reduceLT, Int.reduceLE, reduceCtorEq]
  · simp only [go_sem, Int.reduceTMod, Int.reduceTDiv, Int.reduceDiv, Int.reduceMod, Int.reduceAdd, Int.reduceSub, Int.reduceMul, Int.reduceNeg, Int.reducePow, Int.reduceEq, ↓reduceIte, Nat.reduceEqDiff, Nat.reduceAdd, Nat.reduceMul, Nat.reduceLeDiff, Nat.reduceSub, Nat.reduceLT, Int.reduceToNat, Int.reduceLT, Int.reduceLE, reduceCtorEq]
  · simp only [go_sem, Int.reduceTMod, Int.reduceTDiv, Int.reduceDiv, Int.reduceMod, Int.reduceAdd, Int.reduceSub, Int.reduceMul, Int.reduceNeg, Int.reducePow, Int.reduceEq, ↓reduceIte, Nat.reduceEqDiff, Nat.reduceAdd, Nat.reduceMul, Nat.reduceLeDiff, Nat.reduceSub, Nat.reduceLT, Int.reduceToNat, Int.reduceLT, Int.reduceLE, reduceCtorEq]
  · simp only [go_sem, Int.reduceTMod, Int.reduceTDiv, Int.reduceDiv, Int.reduceMod, Int.reduceAdd, Int.reduceSub, Int.reduceMul, Int.reduceNeg, Int.reducePow, Int.reduceEq, ↓reduceIte, Nat.reduceEqDiff, Nat.reduceAdd, Nat.reduceMul, Nat.reduceLeDiff, Nat.reduceSub, Nat.reduceLT, Int.reduceToNat, Int.reduceLT, Int.reduceLE, reduceCtorEq]
  · simp only [windsTo, go_sem, Int.reduceTMod, Int.reduceTDiv, Int.reduceDiv, Int.reduceMod, Int.reduceAdd, Int.reduceSub, Int.reduceMul, Int.reduceNeg, Int.reducePow, Int.reduceEq, ↓reduceIte, Nat.reduceEqDiff, Nat.reduceAdd, Nat.reduceMul, Nat.reduceLeDiff, Nat.reduceSub, Nat.reduceLT, Int.reduceToNat, Int.reduceLT, Int.reduceLE, reduceCtorEq]
  · simp only [go_sem, Int.reduceTMod, Int.reduceTDiv, Int.reduceDiv, Int.reduceMod, Int.reduceAdd, Int.reduceSub, Int.reduceMul, Int.reduceNeg, Int.reducePow, Int.reduceEq, ↓reduceIte, Nat.reduceEqDiff, Nat.reduceAdd, Nat.reduceMul, Nat.reduceLeDiff, Nat.reduceSub, Nat.reduceLT, Int.reduceToNat, Int.reduceLT, Int.reduceLE, reduceCtorEq]
    omega
  · simp only [na_0 hid, na_ne hid, go_sem, Int.reduceTMod, Int.reduceTDiv, Int.reduceDiv, Int.reduceMod, Int.reduceAdd, Int.reduceSub, Int.reduceMul, Int.reduceNeg, Int.reducePow, Int.reduceEq, ↓reduceIte, Nat.reduceEqDiff, Nat.reduceAdd, Nat.reduceMul, Nat.reduceLeDiff, Nat.reduceSub, Nat.reduceLT, Int.reduceToNat, Int.reduceLT, Int.reduceLE, reduceCtorEq]
  · simp only [go_sem, Int.reduceTMod, Int.reduceTDiv, Int.reduceDiv, Int.reduceMod, Int.reduceAdd, Int.reduceSub, Int.reduceMul, Int.reduceNeg, Int.reducePow, Int.reduceEq, ↓reduceIte, Nat.reduceEqDiff, Nat.reduceAdd, Nat.reduceMul, Nat.reduceLeDiff, Nat.reduceSub, Nat.reduceLT, Int.reduceToNat, Int.reduceLT, Int.reduceLE, reduceCtorEq]
/-- A row of points, or one without room. -/
def RPe (m : Mem) (n : Nat) (r : Reg) (l : List Pt) : Prop := RPt m n r l ∨ ∃ a, r = .one (.sc (.slice a 0 0)) ∧ l = []
theorem RPe.len {m : Mem} {n : Nat} {r : Reg} {l : List Pt} (h : RPe m n r l) : lenO r = some (l.length : Int) := by
  rcases h with h | ⟨a, rfl, rfl⟩
  · exact h.len
  · rfl
theorem RPe.keep {m m' : Mem} {n n' : Nat} {r : Reg} {l : List Pt} (h : RPe m n r l) (hn : n ≤ n') (hm : ∀ id, id < n → m' id = m id) : RPe m' n' r l := by
  rcases h with h | h
  · exact Or.inl (h.keep hn hm)
  · exact Or.inr h
theorem RPe.frz {m : Mem} {n : Nat} {r : Reg} {l : List Pt} (h : RPe m n r l) : RPe (frz m) n r l := by
  rcases h with h | h
  · exact Or.inl (RL.frz h)
  · exact Or.inr h
theorem v_WindsE (r : Reg) (l : List Pt) (s : Pt) (m : Mem) (n : Nat) (hr : RPe m n r l) (hl : l.length < 1000000) (hi : l.all inP = true) (hs : inP s = true) : callF TA 38 [r, .agg [I s.x, I s.y]] m n = some (RI (windsTo l s l.length)) := by
  rcases hr with hr | ⟨a, rfl, rfl⟩
  · exact v_Winds r l s m n hr hl hi hs
  · refine callF_of (Fn_ofK (fn := F38) rfl (by simp [F38]) ?_)
    have z : ((0 : Int) < 0) = False := eq_false (by decide)
    try simp only [r38_0, r38_1, r38_2, r38_3, r38_4, r38_5, r38_6, r38_7, r38_8, r38_9, r38_10, r38_11, c38, F38, l38_0, XK_loop, lenO_none, z, windsTo, go_sem, Int.reduceTMod, Int.reduceTDiv, Int.reduceDiv, Int.reduceMod, Int.reduceAdd, Int.reduceSub, Int.reduceMul, Int.reduceNeg, Int.reducePow, Int.reduceEq, ↓reduceIte, Nat.reduceEqDiff, Nat.reduceAdd, Nat.reduceMul, Nat.reduceLeDiff, Nat.reduceSub, Nat.reduceLT, Int.reduceToNat, Int.reduceLT, Int.reduceLE, reduceCtorEq]
    repeat' ((first | refine FK_split (fun h_ => ?_) (fun h_ => ?_) | refine GK_split (fun h_ => ?_) (fun h_ => ?_) | refine ite_both (fun h_ => ?_) (fun h_ => ?_)) <;> (try simp only [decide_eq_true_eq, decide_eq_false_iff_not, Bool.not_true, Bool.not_false, Bool.not_eq_true', Bool.not_eq_false', Bool.not_eq_eq_eq_not, Decidable.not_not] at h_) <;> (try simp only [r38_0, r38_1, r38_2, r38_3, r38_4, r38_5, r38_6, r38_7, r38_8, r38_9, r38_10, r38_11, c38, F38, l38_0, XK_loop, lenO_none, z, windsTo, h_, go_sem, Int.reduceTMod, Int.reduceTDiv, Int.reduceDiv, Int.reduceMod, Int.reduceAdd, Int.reduceSub, Int.reduceMul, Int.reduceNeg, Int.reducePow, Int.reduceEq, ↓reduceIte, Nat.reduceEqDiff, Nat.reduceAdd, Nat.reduceMul, Nat.reduceLeDiff, Nat.reduceSub, Nat.reduceLT, Int.reduceToNat, Int.reduceLT, Int.reduceLE, reduceCtorEq]))
end Go.Proofs.Ytkdbnmohpanpfaa.Sy
