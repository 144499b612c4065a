/- A segment that comes in, one that goes, a point that is put elsewhere. Conditions: those that each theorem names. -/
import Derived.Test.YtpleidpbapgmiaaDoorPaL
namespace Go.Proofs.YtpleidpbapgmiaaDoor.Sy
open Go Go.Proofs
set_option linter.unusedSimpArgs false
set_option linter.unusedVariables false
set_option maxRecDepth 20000
attribute [local go_sem] XK_seq XK_block XK_skip XK_exit XK_ret XK_cond XK_reg XK_dreg XK_ureg KN_seq KN_blk KN_lp KN_chk KN_chku KN_top KN_fin KX_seq KX_lp KX_blk KX_chk KX_top KR_seq KR_blk KR_lp KR_chk KR_top KR_fin FK_true FK_false RK_nil RK_mv RK_pick RK_alloc RK_box RK_build RK_bslice RK_load1 RK_loadA RK_store RK_nilchk RK_bin RK_beq RK_eqv RK_eqnil RK_un RK_conv RK_mkfn RK_mkslice RK_slS RK_slA RK_fadr RK_fld RK_iadrA RK_iadrS RK_idxA RK_ext RK_lenC RK_cap RK_app RK_appz RK_cpy RK_mn RK_mx RK_len RK_carry RK_clr carryR um0 um1 ThenK_some RK_guard GK_tt GK_ff GK_tf GK_ft GK_none QK_some RK_callQ RK_callZ RK_callT TK_some VK_clo RK_callV
  evalOp evO evOs upd_at unfrz_at putE_some putE_none boolOf_b boolOf_tup Option.map_some evRes pack_one pack_two pack_three pack_none List.getD_cons_zero List.getD_cons_succ getD_nil
  Option.some.injEq exists_eq_left' Reg.cs? fillC setL List.set_cons_zero List.set_cons_succ List.length_cons List.length_nil rd_upd rd_updn rdB wr List.drop_zero List.drop_succ_cons List.take_succ_cons List.take_zero List.getElem?_cons_zero List.getElem?_cons_succ
  ix Int.toNat_zero lenO_sl lenO_nil nadd na_eq na_eq' na_lt na_ee na_ll na_ne na_ne' na_tt
attribute [local go_sem] Reg.flat_one Reg.flat_agg Reg.flat_tup flats_nil flats_cons Cell.flat_sc Cell.flat_ptr List.all_cons List.all_nil disOk safeOk safeR decide_eq_true_eq decide_eq_false_iff_not
  List.map_cons List.map_nil List.cons_append List.nil_append List.append_nil evalOp.capsOf Bool.false_bne Bool.bne_false Bool.true_bne Bool.bne_true bne_self_eq_false beq_self_eq_true Bool.not_not Bool.false_and Bool.and_false Bool.true_or Bool.or_true beq_iff_eq eqCells
  Bool.true_beq Bool.false_beq Bool.not_eq_true' Bool.not_eq_eq_eq_not Bool.not_eq_false' and_false false_and frz_at idOf noId Option.isSome_some Bool.and_eq_true
attribute [local go_sem] wr_eq bV_add bV_sub bV_mul bV_eql bV_neq bV_lss bV_leq bV_gtr bV_geq bV_quo bV_rem bV_shr bV_shl uV_not uV_neg wrapU bits_and bits_or bits_xor IntKind.bits Nat.min_eq_left Nat.min_eq_right Nat.min_self
attribute [local go_sem] bne_iff_ne Int.cast_ofNat_Int Nat.zero_add Nat.add_zero and_self and_true true_and ne_eq not_false_eq_true not_true_eq_false decide_true decide_false Bool.false_eq_true Bool.not_true Bool.not_false Bool.true_and Bool.and_true Bool.or_false Bool.false_or Bool.and_self

def capN : Reg → Prop
  | .one (.sl _ _ _ (some _) _) => False
  | _ => True
theorem GL.capN {base : Nat} {m : Mem} {n : Nat} {r : Reg} {l : List Sg} (h : GL base m n r l) : capN r := by
  rcases h with ⟨rfl, _⟩ | ⟨id, cs, rfl, _⟩ <;> trivial
/-- What an edit hands back: the error, or the row. -/
def EdQ (e : Int) (l' : List Sg) (n : Nat) (r' : Reg) (m' : Mem) (n' : Nat) : Prop :=
  ∃ x, r' = .tup [x, RI e] ∧ n ≤ n' ∧ ((e ≠ 0 ∧ x = rnil) ∨ (e = 0 ∧ RSg m' n' x l' ∧ capN x ∧ ∀ j, sid x = some j → n ≤ j))
def insL (l : List Sg) (i : Int) (s : Sg) : List Sg := l.take i.toNat ++ [s] ++ l.drop i.toNat
def insE (l : List Sg) (i : Int) (s : Sg) : Int := if chkP l = 0 then (if i < 0 ∨ (l.length : Int) < i then 30 else chkP (insL l i s)) else chkP l
def delL (l : List Sg) (i : Int) : List Sg := l.take i.toNat ++ l.drop (i.toNat + 1)
def delE (l : List Sg) (i : Int) : Int := if atE l i = 0 then chkP (delL l i) else atE l i
theorem flat_take (l : List Sg) (k : Nat) : (l.flatMap Sg.cs).take (k * 7) = (l.take k).flatMap Sg.cs := by
  induction l generalizing k with
  | nil => simp
  | cons x l ih =>
    cases k with
    | zero => simp
    | succ k =>
      rw [show (k + 1) * 7 = k * 7 + 1 + 1 + 1 + 1 + 1 + 1 + 1 by omega]
      simp [ih k]
theorem flat_drop (l : List Sg) (k : Nat) : (l.flatMap Sg.cs).drop (k * 7) = (l.drop k).flatMap Sg.cs := by
  induction l generalizing k with
  | nil => simp
  | cons x l ih =>
    cases k with
    | zero => simp
    | succ k =>
      rw [show (k + 1) * 7 = k * 7 + 1 + 1 + 1 + 1 + 1 + 1 + 1 by omega]
      simp [ih k]
theorem sl_take {m : Mem} {n id off a : Nat} {l : List Sg} {cap' : Option Nat} (hid : id < n) (hrd : rd m id off (l.length * 7) = some (l.flatMap Sg.cs)) (ha : a ≤ l.length) :
    RSg m n (.one (.sl id off a cap' 7)) (l.take a) := by
  have hl : (l.take a).length = a := by rw [List.length_take]; omega
  refine Or.inr ⟨id, off, cap', by rw [hl], hid, ?_⟩
  have := rd_sub (a := 0) (q := a * 7) hrd (by omega)
  rw [List.drop_zero, flat_take, Nat.add_zero] at this
  rw [hl]
  exact this
theorem sl_drop {m : Mem} {n id off a : Nat} {l : List Sg} {cap' : Option Nat} (hid : id < n) (hrd : rd m id off (l.length * 7) = some (l.flatMap Sg.cs)) (ha : a ≤ l.length) :
    RSg m n (.one (.sl id (off + a * 7) (l.length - a) cap' 7)) (l.drop a) := by
  have hl : (l.drop a).length = l.length - a := by rw [List.length_drop]
  refine Or.inr ⟨id, off + a * 7, cap', by rw [hl], hid, ?_⟩
  have := rd_sub (a := a * 7) (q := (l.length - a) * 7) hrd (by rw [← Nat.add_mul]; exact Nat.mul_le_mul_right _ (by omega))
  rw [flat_drop, List.take_of_length_le (by rw [flatMap_len Sg.cs 7 cs7, hl]; exact Nat.le_refl _)] at this
  rw [hl]
  exact this
theorem one_row {m : Mem} {n b : Nat} {s : Sg} {o : Bool} (hbn : b < n) (hb : m b = some ⟨s.cs, o⟩) : RSg m n (.one (.sl b 0 1 (some 1) 7)) [s] := by
  refine Or.inr ⟨b, 0, some 1, rfl, hbn, ?_⟩
  rw [rd_of hb]
  rfl
set_option maxHeartbeats 2000000 in
theorem w_Insert {r : Reg} {l : List Sg} {m : Mem} {n : Nat} {o : Bool} (i : Int) (s : Sg) (hr : RSg m n r l) (hc : capN r) (h0 : m 0 = some ⟨needC, o⟩) (hn : 0 < n) (hl : l.length < 1000000) :
    Fn TA 30 [r, RI i, .agg s.cs] m n (EdQ (insE l i s) (insL l i s) n) := by
  refine Fn_ofK (fn := F30) rfl (by simp [F30]) ?_
  have hlen := hr.len
  have hr0 : RSg (upd m n (some ⟨s.cs, true⟩)) (n + 1) r l := hr.keep (by omega) (fun id hid => upd_ne _ _ (by omega))
  have hz : (upd m n (some ⟨s.cs, true⟩)) 0 = some ⟨needC, o⟩ := by rw [upd_ne _ _ (by omega)]; exact h0
  have vC := v_Check (o := false) hr0.frz (by rw [frz_at, hz]; rfl) (by omega)
  by_cases hk : chkP l = 0
  case neg =>
    have e : insE l i s = chkP l := if_neg hk
    try simp only [r30_0, r30_1, r30_2, r30_3, r30_4, r30_5, r30_6, c30, F30, vC, hk, go_sem, Int.reduceTMod, Int.reduceTDiv, Int.reduceDiv, Int.reduceMod, Int.reduceAdd, Int.reduceSub, Int.reduceMul, Int.reduceNeg, Int.reducePow, Int.reduceEq, ↓reduceIte, Nat.reduceEqDiff, Nat.reduceAdd, Nat.reduceMul, Nat.reduceLeDiff, Nat.reduceSub, Nat.reduceLT, Int.reduceToNat, Int.reduceLT, Int.reduceLE, reduceCtorEq]
    repeat' ((first | refine FK_split (fun h_ => ?_) (fun h_ => ?_) | refine GK_split (fun h_ => ?_) (fun h_ => ?_) | refine ite_both (fun h_ => ?_) (fun h_ => ?_)) <;> (try simp only [decide_eq_true_eq, decide_eq_false_iff_not, Bool.not_true, Bool.not_false, Bool.not_eq_true', Bool.not_eq_false', Bool.not_eq_eq_eq_not, Decidable.not_not] at h_) <;> (try simp only [r30_0, r30_1, r30_2, r30_3, r30_4, r30_5, r30_6, c30, F30, vC, hk, h_, go_sem, Int.reduceTMod, Int.reduceTDiv, Int.reduceDiv, Int.reduceMod, Int.reduceAdd, Int.reduceSub, Int.reduceMul, Int.reduceNeg, Int.reducePow, Int.reduceEq, ↓reduceIte, Nat.reduceEqDiff, Nat.reduceAdd, Nat.reduceMul, Nat.reduceLeDiff, Nat.reduceSub, Nat.reduceLT, Int.reduceToNat, Int.reduceLT, Int.reduceLE, reduceCtorEq]))
    exact ⟨rnil, by rw [e], by omega, Or.inl ⟨by rw [e]; exact hk, rfl⟩⟩
  by_cases h1 : i < 0
  · have e : insE l i s = 30 := by unfold insE; rw [if_pos hk, if_pos (Or.inl h1)]
    try simp only [r30_0, r30_1, r30_2, r30_3, r30_4, r30_5, r30_6, c30, F30, vC, hk, h1, go_sem, Int.reduceTMod, Int.reduceTDiv, Int.reduceDiv, Int.reduceMod, Int.reduceAdd, Int.reduceSub, Int.reduceMul, Int.reduceNeg, Int.reducePow, Int.reduceEq, ↓reduceIte, Nat.reduceEqDiff, Nat.reduceAdd, Nat.reduceMul, Nat.reduceLeDiff, Nat.reduceSub, Nat.reduceLT, Int.reduceToNat, Int.reduceLT, Int.reduceLE, reduceCtorEq]
    repeat' ((first | refine FK_split (fun h_ => ?_) (fun h_ => ?_) | refine GK_split (fun h_ => ?_) (fun h_ => ?_) | refine ite_both (fun h_ => ?_) (fun h_ => ?_)) <;> (try simp only [decide_eq_true_eq, decide_eq_false_iff_not, Bool.not_true, Bool.not_false, Bool.not_eq_true', Bool.not_eq_false', Bool.not_eq_eq_eq_not, Decidable.not_not] at h_) <;> (try simp only [r30_0, r30_1, r30_2, r30_3, r30_4, r30_5, r30_6, c30, F30, vC, hk, h1, h_, go_sem, Int.reduceTMod, Int.reduceTDiv, Int.reduceDiv, Int.reduceMod, Int.reduceAdd, Int.reduceSub, Int.reduceMul, Int.reduceNeg, Int.reducePow, Int.reduceEq, ↓reduceIte, Nat.reduceEqDiff, Nat.reduceAdd, Nat.reduceMul, Nat.reduceLeDiff, Nat.reduceSub, Nat.reduceLT, Int.reduceToNat, Int.reduceLT, Int.reduceLE, reduceCtorEq]))
    exact ⟨rnil, by rw [e], by omega, Or.inl ⟨by rw [e]; decide, rfl⟩⟩
  by_cases h2 : (l.length : Int) < i
  · have e : insE l i s = 30 := by unfold insE; rw [if_pos hk, if_pos (Or.inr h2)]
    try simp only [r30_0, r30_1, r30_2, r30_3, r30_4, r30_5, r30_6, c30, F30, vC, hk, h1, h2, hlen, go_sem, Int.reduceTMod, Int.reduceTDiv, Int.reduceDiv, Int.reduceMod, Int.reduceAdd, Int.reduceSub, Int.reduceMul, Int.reduceNeg, Int.reducePow, Int.reduceEq, ↓reduceIte, Nat.reduceEqDiff, Nat.reduceAdd, Nat.reduceMul, Nat.reduceLeDiff, Nat.reduceSub, Nat.reduceLT, Int.reduceToNat, Int.reduceLT, Int.reduceLE, reduceCtorEq]
    repeat' ((first | refine FK_split (fun h_ => ?_) (fun h_ => ?_) | refine GK_split (fun h_ => ?_) (fun h_ => ?_) | refine ite_both (fun h_ => ?_) (fun h_ => ?_)) <;> (try simp only [decide_eq_true_eq, decide_eq_false_iff_not, Bool.not_true, Bool.not_false, Bool.not_eq_true', Bool.not_eq_false', Bool.not_eq_eq_eq_not, Decidable.not_not] at h_) <;> (try simp only [r30_0, r30_1, r30_2, r30_3, r30_4, r30_5, r30_6, c30, F30, vC, hk, h1, h2, hlen, h_, go_sem, Int.reduceTMod, Int.reduceTDiv, Int.reduceDiv, Int.reduceMod, Int.reduceAdd, Int.reduceSub, Int.reduceMul, Int.reduceNeg, Int.reducePow, Int.reduceEq, ↓reduceIte, Nat.reduceEqDiff, Nat.reduceAdd, Nat.reduceMul, Nat.reduceLeDiff, Nat.reduceSub, Nat.reduceLT, Int.reduceToNat, Int.reduceLT, Int.reduceLE, reduceCtorEq]))
    exact ⟨rnil, by rw [e], by omega, Or.inl ⟨by rw [e]; decide, rfl⟩⟩
  have e : insE l i s = chkP (insL l i s) := by unfold insE; rw [if_pos hk, if_neg (by omega)]
  obtain ⟨a, rfl⟩ : ∃ a : Nat, i = a := ⟨i.toNat, by omega⟩
  have hil : insL l a s = [l.take a, [s], l.drop a].flatten := by simp [insL]
  have hal : a ≤ l.length := by omega
  have hfl : [l.take a, [s], l.drop a].flatten.length = l.length + 1 := by simp; omega
  rw [hil] at e ⊢
  have keep : ∀ {x : Reg} {k : List Sg} (b1 b2 : Option Blk), RSg (upd m n (some ⟨s.cs, true⟩)) (n + 1) x k → RSg (frz (upd (upd (upd m n (some ⟨s.cs, true⟩)) (n + 1) b1) (n + 2) b2)) (n + 3) x k := fun b1 b2 h =>
    (h.keep (show n + 1 ≤ n + 3 by omega) (fun id hid => by rw [upd_ne _ _ (show id ≠ n + 2 by omega), upd_ne _ _ (show id ≠ n + 1 by omega)])).frz
  have fin : ∀ (c1 c3 : Cell), RSg (upd m n (some ⟨s.cs, true⟩)) (n + 1) (.one c1) (l.take a) → RSg (upd m n (some ⟨s.cs, true⟩)) (n + 1) (.one c3) (l.drop a) →
      Fn TA 45 [.one (.sl (n + 2) 0 3 (some 3) 1)] (frz (upd (upd (upd m n (some ⟨s.cs, true⟩)) (n + 1) (some ⟨s.cs, true⟩)) (n + 2) (some ⟨[c1, .sl (n + 1) 0 1 (some 1) 7, c3], true⟩))) (n + 3)
        (fun r' m' n' => n + 3 ≤ n' ∧ GL (n + 3) m' n' r' [l.take a, [s], l.drop a].flatten) := by
    intro c1 c3 p1 p3
    refine w_Concat (cs := [c1, .sl (n + 1) 0 1 (some 1) 7, c3]) (ow := false) (by rw [frz_at, upd_same]; rfl) (by omega) ⟨keep _ _ p1, ?_, keep _ _ p3, trivial⟩ (by omega) (by simp)
    exact one_row (o := false) (by omega) (by rw [frz_at, upd_ne _ _ (by omega), upd_same]; rfl)
  have tail : ∀ (e' : Nat → Reg) (M : Mem) (c1 c3 : Cell), RSg (upd m n (some ⟨s.cs, true⟩)) (n + 1) (.one c1) (l.take a) → RSg (upd m n (some ⟨s.cs, true⟩)) (n + 1) (.one c3) (l.drop a) → e' 30 = .one (.sl (n + 2) 0 3 (some 3) 1) →
      RK TA (r30_6.drop 9) e' (upd (upd (upd m n (some ⟨s.cs, true⟩)) (n + 1) (some ⟨s.cs, true⟩)) (n + 2) (some ⟨[c1, .sl (n + 1) 0 1 (some 1) 7, c3], true⟩)) (n + 3) (Kt.seq .ret (Kt.fin [.tmp 6, .tmp 7] (EdQ (insE l a s) [l.take a, [s], l.drop a].flatten n))) := by
    intro e' M c1 c3 p1 p3 h30
    try simp only [r30_6, go_sem, Int.reduceTMod, Int.reduceTDiv, Int.reduceDiv, Int.reduceMod, Int.reduceAdd, Int.reduceSub, Int.reduceMul, Int.reduceNeg, Int.reducePow, Int.reduceEq, ↓reduceIte, Nat.reduceEqDiff, Nat.reduceAdd, Nat.reduceMul, Nat.reduceLeDiff, Nat.reduceSub, Nat.reduceLT, Int.reduceToNat, Int.reduceLT, Int.reduceLE, reduceCtorEq]
    repeat' ((first | refine FK_split (fun h_ => ?_) (fun h_ => ?_) | refine GK_split (fun h_ => ?_) (fun h_ => ?_) | refine ite_both (fun h_ => ?_) (fun h_ => ?_)) <;> (try simp only [decide_eq_true_eq, decide_eq_false_iff_not, Bool.not_true, Bool.not_false, Bool.not_eq_true', Bool.not_eq_false', Bool.not_eq_eq_eq_not, Decidable.not_not] at h_) <;> (try simp only [r30_6, h_, go_sem, Int.reduceTMod, Int.reduceTDiv, Int.reduceDiv, Int.reduceMod, Int.reduceAdd, Int.reduceSub, Int.reduceMul, Int.reduceNeg, Int.reducePow, Int.reduceEq, ↓reduceIte, Nat.reduceEqDiff, Nat.reduceAdd, Nat.reduceMul, Nat.reduceLeDiff, Nat.reduceSub, Nat.reduceLT, Int.reduceToNat, Int.reduceLT, Int.reduceLE, reduceCtorEq]))
    refine RK_callk ?_
    show Fn TA _ [e' 30] _ _ _
    rw [h30]
    refine (fin c1 c3 p1 p3).mono ?_
    rintro x m1 n1 ⟨hn1, hG⟩
    rw [show max (n + 3) n1 = n1 by omega]
    generalize hM1 : unfrz (upd (upd (upd m n (some ⟨s.cs, true⟩)) (n + 1) (some ⟨s.cs, true⟩)) (n + 2) (some ⟨[c1, .sl (n + 1) 0 1 (some 1) 7, c3], true⟩)) (n + 3) m1 = M1
    have hz1 : M1 0 = some ⟨needC, o⟩ := by rw [← hM1, unfrz_at, if_pos (by omega), upd_ne _ _ (by omega), upd_ne _ _ (by omega), upd_ne _ _ (by omega)]; exact h0
    have hG1 : GL (n + 3) M1 n1 x [l.take a, [s], l.drop a].flatten := hG.keep (Nat.le_refl _) (fun id h1 h2 => by rw [← hM1, unfrz_at, if_neg (by omega)])
    refine RK_callk ?_
    show Fn TA _ [x] _ _ _
    refine (w_checked (o := false) hG1.rl.frz (by rw [frz_at, hz1]; rfl) (by omega)).mono ?_
    rintro r' m' n' ⟨rfl, rfl, rfl⟩
    have hrow : RSg (unfrz M1 n' (frz M1)) (max n' n') x [l.take a, [s], l.drop a].flatten := hG1.rl.keep (by omega) (fun id hid => by rw [unfrz_at, if_pos hid])
    by_cases hq : chkP [l.take a, [s], l.drop a].flatten = 0
    · rw [if_pos hq]
      try simp only [r30_6, go_sem, Int.reduceTMod, Int.reduceTDiv, Int.reduceDiv, Int.reduceMod, Int.reduceAdd, Int.reduceSub, Int.reduceMul, Int.reduceNeg, Int.reducePow, Int.reduceEq, ↓reduceIte, Nat.reduceEqDiff, Nat.reduceAdd, Nat.reduceMul, Nat.reduceLeDiff, Nat.reduceSub, Nat.reduceLT, Int.reduceToNat, Int.reduceLT, Int.reduceLE, reduceCtorEq]
      repeat' ((first | refine FK_split (fun h_ => ?_) (fun h_ => ?_) | refine GK_split (fun h_ => ?_) (fun h_ => ?_) | refine ite_both (fun h_ => ?_) (fun h_ => ?_)) <;> (try simp only [decide_eq_true_eq, decide_eq_false_iff_not, Bool.not_true, Bool.not_false, Bool.not_eq_true', Bool.not_eq_false', Bool.not_eq_eq_eq_not, Decidable.not_not] at h_) <;> (try simp only [r30_6, h_, go_sem, Int.reduceTMod, Int.reduceTDiv, Int.reduceDiv, Int.reduceMod, Int.reduceAdd, Int.reduceSub, Int.reduceMul, Int.reduceNeg, Int.reducePow, Int.reduceEq, ↓reduceIte, Nat.reduceEqDiff, Nat.reduceAdd, Nat.reduceMul, Nat.reduceLeDiff, Nat.reduceSub, Nat.reduceLT, Int.reduceToNat, Int.reduceLT, Int.reduceLE, reduceCtorEq]))
      exact ⟨x, by rw [e], by omega, Or.inr ⟨by rw [e, hq], hrow, hG1.capN, fun j hj => by have := hG1.sidge hj; omega⟩⟩
    · rw [if_neg hq]
      try simp only [r30_6, go_sem, Int.reduceTMod, Int.reduceTDiv, Int.reduceDiv, Int.reduceMod, Int.reduceAdd, Int.reduceSub, Int.reduceMul, Int.reduceNeg, Int.reducePow, Int.reduceEq, ↓reduceIte, Nat.reduceEqDiff, Nat.reduceAdd, Nat.reduceMul, Nat.reduceLeDiff, Nat.reduceSub, Nat.reduceLT, Int.reduceToNat, Int.reduceLT, Int.reduceLE, reduceCtorEq]
      repeat' ((first | refine FK_split (fun h_ => ?_) (fun h_ => ?_) | refine GK_split (fun h_ => ?_) (fun h_ => ?_) | refine ite_both (fun h_ => ?_) (fun h_ => ?_)) <;> (try simp only [decide_eq_true_eq, decide_eq_false_iff_not, Bool.not_true, Bool.not_false, Bool.not_eq_true', Bool.not_eq_false', Bool.not_eq_eq_eq_not, Decidable.not_not] at h_) <;> (try simp only [r30_6, h_, go_sem, Int.reduceTMod, Int.reduceTDiv, Int.reduceDiv, Int.reduceMod, Int.reduceAdd, Int.reduceSub, Int.reduceMul, Int.reduceNeg, Int.reducePow, Int.reduceEq, ↓reduceIte, Nat.reduceEqDiff, Nat.reduceAdd, Nat.reduceMul, Nat.reduceLeDiff, Nat.reduceSub, Nat.reduceLT, Int.reduceToNat, Int.reduceLT, Int.reduceLE, reduceCtorEq]))
      exact ⟨rnil, by rw [e], by omega, Or.inl ⟨by rw [e]; exact hq, rfl⟩⟩
  rcases hr0 with ⟨rfl, rfl⟩ | ⟨id, off, cap, rfl, hid, hrd⟩
  · obtain rfl : a = 0 := by simpa using hal
    try simp only [r30_0, r30_1, r30_2, r30_3, r30_4, r30_5, r30_6, c30, F30, vC, hk, h1, h2, hlen, bnds_00, bnds_01, Option.map_none, List.length_nil, go_sem, Int.reduceTMod, Int.reduceTDiv, Int.reduceDiv, Int.reduceMod, Int.reduceAdd, Int.reduceSub, Int.reduceMul, Int.reduceNeg, Int.reducePow, Int.reduceEq, ↓reduceIte, Nat.reduceEqDiff, Nat.reduceAdd, Nat.reduceMul, Nat.reduceLeDiff, Nat.reduceSub, Nat.reduceLT, Int.reduceToNat, Int.reduceLT, Int.reduceLE, reduceCtorEq]
    repeat' ((first | refine FK_split (fun h_ => ?_) (fun h_ => ?_) | refine GK_split (fun h_ => ?_) (fun h_ => ?_) | refine ite_both (fun h_ => ?_) (fun h_ => ?_)) <;> (try simp only [decide_eq_true_eq, decide_eq_false_iff_not, Bool.not_true, Bool.not_false, Bool.not_eq_true', Bool.not_eq_false', Bool.not_eq_eq_eq_not, Decidable.not_not] at h_) <;> (try simp only [r30_0, r30_1, r30_2, r30_3, r30_4, r30_5, r30_6, c30, F30, vC, hk, h1, h2, hlen, bnds_00, bnds_01, Option.map_none, List.length_nil, h_, go_sem, Int.reduceTMod, Int.reduceTDiv, Int.reduceDiv, Int.reduceMod, Int.reduceAdd, Int.reduceSub, Int.reduceMul, Int.reduceNeg, Int.reducePow, Int.reduceEq, ↓reduceIte, Nat.reduceEqDiff, Nat.reduceAdd, Nat.reduceMul, Nat.reduceLeDiff, Nat.reduceSub, Nat.reduceLT, Int.reduceToNat, Int.reduceLT, Int.reduceLE, reduceCtorEq]))
    exact tail _ m _ _ RL.nil RL.nil rfl
  · cases cap with
    | some c => exact hc.elim
    | none =>
      try simp only [r30_0, r30_1, r30_2, r30_3, r30_4, r30_5, r30_6, c30, F30, vC, hk, h1, h2, hlen, bnds_hi hal, bnds_lo hal, Option.map_none, Nat.zero_mul, Nat.sub_zero, go_sem, Int.reduceTMod, Int.reduceTDiv, Int.reduceDiv, Int.reduceMod, Int.reduceAdd, Int.reduceSub, Int.reduceMul, Int.reduceNeg, Int.reducePow, Int.reduceEq, ↓reduceIte, Nat.reduceEqDiff, Nat.reduceAdd, Nat.reduceMul, Nat.reduceLeDiff, Nat.reduceSub, Nat.reduceLT, Int.reduceToNat, Int.reduceLT, Int.reduceLE, reduceCtorEq]
      repeat' ((first | refine FK_split (fun h_ => ?_) (fun h_ => ?_) | refine GK_split (fun h_ => ?_) (fun h_ => ?_) | refine ite_both (fun h_ => ?_) (fun h_ => ?_)) <;> (try simp only [decide_eq_true_eq, decide_eq_false_iff_not, Bool.not_true, Bool.not_false, Bool.not_eq_true', Bool.not_eq_false', Bool.not_eq_eq_eq_not, Decidable.not_not] at h_) <;> (try simp only [r30_0, r30_1, r30_2, r30_3, r30_4, r30_5, r30_6, c30, F30, vC, hk, h1, h2, hlen, bnds_hi hal, bnds_lo hal, Option.map_none, Nat.zero_mul, Nat.sub_zero, h_, go_sem, Int.reduceTMod, Int.reduceTDiv, Int.reduceDiv, Int.reduceMod, Int.reduceAdd, Int.reduceSub, Int.reduceMul, Int.reduceNeg, Int.reducePow, Int.reduceEq, ↓reduceIte, Nat.reduceEqDiff, Nat.reduceAdd, Nat.reduceMul, Nat.reduceLeDiff, Nat.reduceSub, Nat.reduceLT, Int.reduceToNat, Int.reduceLT, Int.reduceLE, reduceCtorEq]))
      exact tail _ m _ _ (sl_take hid hrd hal) (sl_drop hid hrd hal) rfl
set_option maxHeartbeats 2000000 in
theorem w_Delete {r : Reg} {l : List Sg} {m : Mem} {n : Nat} {o : Bool} (i : Int) (hr : RSg m n r l) (hc : capN r) (h0 : m 0 = some ⟨needC, o⟩) (hn : 0 < n) (hl : l.length < 1000000) :
    Fn TA 31 [r, RI i] m n (EdQ (delE l i) (delL l i) n) := by
  refine Fn_ofK (fn := F31) rfl (by simp [F31]) ?_
  have hlen := hr.len
  have vA := v_at (o := false) i hr.frz (by rw [frz_at, h0]; rfl) hn
  by_cases hk : atE l i = 0
  case neg =>
    have e : delE l i = atE l i := if_neg hk
    try simp only [r31_0, r31_1, r31_2, r31_3, r31_4, c31, F31, vA, hk, go_sem, Int.reduceTMod, Int.reduceTDiv, Int.reduceDiv, Int.reduceMod, Int.reduceAdd, Int.reduceSub, Int.reduceMul, Int.reduceNeg, Int.reducePow, Int.reduceEq, ↓reduceIte, Nat.reduceEqDiff, Nat.reduceAdd, Nat.reduceMul, Nat.reduceLeDiff, Nat.reduceSub, Nat.reduceLT, Int.reduceToNat, Int.reduceLT, Int.reduceLE, reduceCtorEq]
    repeat' ((first | refine FK_split (fun h_ => ?_) (fun h_ => ?_) | refine GK_split (fun h_ => ?_) (fun h_ => ?_) | refine ite_both (fun h_ => ?_) (fun h_ => ?_)) <;> (try simp only [decide_eq_true_eq, decide_eq_false_iff_not, Bool.not_true, Bool.not_false, Bool.not_eq_true', Bool.not_eq_false', Bool.not_eq_eq_eq_not, Decidable.not_not] at h_) <;> (try simp only [r31_0, r31_1, r31_2, r31_3, r31_4, c31, F31, vA, hk, h_, go_sem, Int.reduceTMod, Int.reduceTDiv, Int.reduceDiv, Int.reduceMod, Int.reduceAdd, Int.reduceSub, Int.reduceMul, Int.reduceNeg, Int.reducePow, Int.reduceEq, ↓reduceIte, Nat.reduceEqDiff, Nat.reduceAdd, Nat.reduceMul, Nat.reduceLeDiff, Nat.reduceSub, Nat.reduceLT, Int.reduceToNat, Int.reduceLT, Int.reduceLE, reduceCtorEq]))
    exact ⟨rnil, by rw [e], by omega, Or.inl ⟨by rw [e]; exact hk, rfl⟩⟩
  have e : delE l i = chkP (delL l i) := if_pos hk
  have hi : 0 ≤ i ∧ i < l.length := by
    unfold atE at hk
    split at hk
    · split at hk
      · cases hk
      · omega
    · rename_i h; exact absurd hk h
  obtain ⟨a, rfl⟩ : ∃ a : Nat, i = a := ⟨i.toNat, by omega⟩
  have hil : delL l a = [l.take a, l.drop (a + 1)].flatten := by simp [delL]
  have hal : a ≤ l.length := by omega
  have hal1 : a + 1 ≤ l.length := by omega
  have hfl : [l.take a, l.drop (a + 1)].flatten.length = l.length - 1 := by simp; omega
  rw [hil] at e ⊢
  have w1 : IntKind.i64.wrap ((a : Int) + 1) = ((a + 1 : Nat) : Int) := wr_nat (by omega)
  have tail : ∀ (e' : Nat → Reg) (M : Mem) (c1 c3 : Cell), RSg m n (.one c1) (l.take a) → RSg m n (.one c3) (l.drop (a + 1)) → e' 20 = .one (.sl n 0 2 (some 2) 1) →
      RK TA (r31_4.drop 8) e' (upd m n (some ⟨[c1, c3], true⟩)) (n + 1) (Kt.seq .ret (Kt.fin [.tmp 4, .tmp 5] (EdQ (delE l a) [l.take a, l.drop (a + 1)].flatten n))) := by
    intro e' M c1 c3 p1 p3 h20
    have keep : ∀ {x : Reg} {k : List Sg} (b1 : Option Blk), RSg m n x k → RSg (frz (upd m n b1)) (n + 1) x k := fun b1 h =>
      (h.keep (show n ≤ n + 1 by omega) (fun id hid => by rw [upd_ne _ _ (show id ≠ n by omega)])).frz
    try simp only [r31_4, go_sem, Int.reduceTMod, Int.reduceTDiv, Int.reduceDiv, Int.reduceMod, Int.reduceAdd, Int.reduceSub, Int.reduceMul, Int.reduceNeg, Int.reducePow, Int.reduceEq, ↓reduceIte, Nat.reduceEqDiff, Nat.reduceAdd, Nat.reduceMul, Nat.reduceLeDiff, Nat.reduceSub, Nat.reduceLT, Int.reduceToNat, Int.reduceLT, Int.reduceLE, reduceCtorEq]
    repeat' ((first | refine FK_split (fun h_ => ?_) (fun h_ => ?_) | refine GK_split (fun h_ => ?_) (fun h_ => ?_) | refine ite_both (fun h_ => ?_) (fun h_ => ?_)) <;> (try simp only [decide_eq_true_eq, decide_eq_false_iff_not, Bool.not_true, Bool.not_false, Bool.not_eq_true', Bool.not_eq_false', Bool.not_eq_eq_eq_not, Decidable.not_not] at h_) <;> (try simp only [r31_4, h_, go_sem, Int.reduceTMod, Int.reduceTDiv, Int.reduceDiv, Int.reduceMod, Int.reduceAdd, Int.reduceSub, Int.reduceMul, Int.reduceNeg, Int.reducePow, Int.reduceEq, ↓reduceIte, Nat.reduceEqDiff, Nat.reduceAdd, Nat.reduceMul, Nat.reduceLeDiff, Nat.reduceSub, Nat.reduceLT, Int.reduceToNat, Int.reduceLT, Int.reduceLE, reduceCtorEq]))
    refine RK_callk ?_
    show Fn TA _ [e' 20] _ _ _
    rw [h20]
    refine (w_Concat (cs := [c1, c3]) (ls := [l.take a, l.drop (a + 1)]) (b := n) (ow := false) (by rw [frz_at, upd_same]; rfl) (by omega) ⟨keep _ p1, keep _ p3, trivial⟩ (by omega) (by simp)).mono ?_
    rintro x m1 n1 ⟨hn1, hG⟩
    rw [show max (n + 1) n1 = n1 by omega]
    generalize hM1 : unfrz (upd m n (some ⟨[c1, c3], true⟩)) (n + 1) m1 = M1
    have hz1 : M1 0 = some ⟨needC, o⟩ := by rw [← hM1, unfrz_at, if_pos (by omega), upd_ne _ _ (by omega)]; exact h0
    have hG1 : GL (n + 1) M1 n1 x [l.take a, l.drop (a + 1)].flatten := hG.keep (Nat.le_refl _) (fun id h1 h2 => by rw [← hM1, unfrz_at, if_neg (by omega)])
    refine RK_callk ?_
    show Fn TA _ [x] _ _ _
    refine (w_checked (o := false) hG1.rl.frz (by rw [frz_at, hz1]; rfl) (by omega)).mono ?_
    rintro r' m' n' ⟨rfl, rfl, rfl⟩
    have hrow : RSg (unfrz M1 n' (frz M1)) (max n' n') x [l.take a, l.drop (a + 1)].flatten := hG1.rl.keep (by omega) (fun id hid => by rw [unfrz_at, if_pos hid])
    by_cases hq : chkP [l.take a, l.drop (a + 1)].flatten = 0
    · rw [if_pos hq]
      try simp only [r31_4, go_sem, Int.reduceTMod, Int.reduceTDiv, Int.reduceDiv, Int.reduceMod, Int.reduceAdd, Int.reduceSub, Int.reduceMul, Int.reduceNeg, Int.reducePow, Int.reduceEq, ↓reduceIte, Nat.reduceEqDiff, Nat.reduceAdd, Nat.reduceMul, Nat.reduceLeDiff, Nat.reduceSub, Nat.reduceLT, Int.reduceToNat, Int.reduceLT, Int.reduceLE, reduceCtorEq]
      repeat' ((first | refine FK_split (fun h_ => ?_) (fun h_ => ?_) | refine GK_split (fun h_ => ?_) (fun h_ => ?_) | refine ite_both (fun h_ => ?_) (fun h_ => ?_)) <;> (try simp only [decide_eq_true_eq, decide_eq_false_iff_not, Bool.not_true, Bool.not_false, Bool.not_eq_true', Bool.not_eq_false', Bool.not_eq_eq_eq_not, Decidable.not_not] at h_) <;> (try simp only [r31_4, h_, go_sem, Int.reduceTMod, Int.reduceTDiv, Int.reduceDiv, Int.reduceMod, Int.reduceAdd, Int.reduceSub, Int.reduceMul, Int.reduceNeg, Int.reducePow, Int.reduceEq, ↓reduceIte, Nat.reduceEqDiff, Nat.reduceAdd, Nat.reduceMul, Nat.reduceLeDiff, Nat.reduceSub, Nat.reduceLT, Int.reduceToNat, Int.reduceLT, Int.reduceLE, reduceCtorEq]))
      exact ⟨x, by rw [e], by omega, Or.inr ⟨by rw [e, hq], hrow, hG1.capN, fun j hj => by have := hG1.sidge hj; omega⟩⟩
    · rw [if_neg hq]
      try simp only [r31_4, go_sem, Int.reduceTMod, Int.reduceTDiv, Int.reduceDiv, Int.reduceMod, Int.reduceAdd, Int.reduceSub, Int.reduceMul, Int.reduceNeg, Int.reducePow, Int.reduceEq, ↓reduceIte, Nat.reduceEqDiff, Nat.reduceAdd, Nat.reduceMul, Nat.reduceLeDiff, Nat.reduceSub, Nat.reduceLT, Int.reduceToNat, Int.reduceLT, Int.reduceLE, reduceCtorEq]
      repeat' ((first | refine FK_split (fun h_ => ?_) (fun h_ => ?_) | refine GK_split (fun h_ => ?_) (fun h_ => ?_) | refine ite_both (fun h_ => ?_) (fun h_ => ?_)) <;> (try simp only [decide_eq_true_eq, decide_eq_false_iff_not, Bool.not_true, Bool.not_false, Bool.not_eq_true', Bool.not_eq_false', Bool.not_eq_eq_eq_not, Decidable.not_not] at h_) <;> (try simp only [r31_4, h_, go_sem, Int.reduceTMod, Int.reduceTDiv, Int.reduceDiv, Int.reduceMod, Int.reduceAdd, Int.reduceSub, Int.reduceMul, Int.reduceNeg, Int.reducePow, Int.reduceEq, ↓reduceIte, Nat.reduceEqDiff, Nat.reduceAdd, Nat.reduceMul, Nat.reduceLeDiff, Nat.reduceSub, Nat.reduceLT, Int.reduceToNat, Int.reduceLT, Int.reduceLE, reduceCtorEq]))
      exact ⟨rnil, by rw [e], by omega, Or.inl ⟨by rw [e]; exact hq, rfl⟩⟩
  rcases hr with ⟨rfl, rfl⟩ | ⟨id, off, cap, rfl, hid, hrd⟩
  · simp at hal1
  · cases cap with
    | some c => exact hc.elim
    | none =>
      try simp only [r31_0, r31_1, r31_2, r31_3, r31_4, c31, F31, vA, hk, hlen, w1, bnds_hi hal, bnds_lo hal1, Option.map_none, Nat.zero_mul, Nat.sub_zero, go_sem, Int.reduceTMod, Int.reduceTDiv, Int.reduceDiv, Int.reduceMod, Int.reduceAdd, Int.reduceSub, Int.reduceMul, Int.reduceNeg, Int.reducePow, Int.reduceEq, ↓reduceIte, Nat.reduceEqDiff, Nat.reduceAdd, Nat.reduceMul, Nat.reduceLeDiff, Nat.reduceSub, Nat.reduceLT, Int.reduceToNat, Int.reduceLT, Int.reduceLE, reduceCtorEq]
      repeat' ((first | refine FK_split (fun h_ => ?_) (fun h_ => ?_) | refine GK_split (fun h_ => ?_) (fun h_ => ?_) | refine ite_both (fun h_ => ?_) (fun h_ => ?_)) <;> (try simp only [decide_eq_true_eq, decide_eq_false_iff_not, Bool.not_true, Bool.not_false, Bool.not_eq_true', Bool.not_eq_false', Bool.not_eq_eq_eq_not, Decidable.not_not] at h_) <;> (try simp only [r31_0, r31_1, r31_2, r31_3, r31_4, c31, F31, vA, hk, hlen, w1, bnds_hi hal, bnds_lo hal1, Option.map_none, Nat.zero_mul, Nat.sub_zero, h_, go_sem, Int.reduceTMod, Int.reduceTDiv, Int.reduceDiv, Int.reduceMod, Int.reduceAdd, Int.reduceSub, Int.reduceMul, Int.reduceNeg, Int.reducePow, Int.reduceEq, ↓reduceIte, Nat.reduceEqDiff, Nat.reduceAdd, Nat.reduceMul, Nat.reduceLeDiff, Nat.reduceSub, Nat.reduceLT, Int.reduceToNat, Int.reduceLT, Int.reduceLE, reduceCtorEq]))
      exact tail _ m _ _ (sl_take hid hrd hal) (sl_drop hid hrd hal1) rfl
end Go.Proofs.YtpleidpbapgmiaaDoor.Sy
