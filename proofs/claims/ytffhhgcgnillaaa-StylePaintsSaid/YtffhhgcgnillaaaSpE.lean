/- Shades walked. Conditions: those that each theorem names. -/
import Derived.Test.YtffhhgcgnillaaaSpD
namespace Go.Proofs.Ytffhhgcgnillaaa.Sy
open Go Go.Proofs
set_option linter.unusedSimpArgs false
set_option linter.unusedVariables false
set_option maxRecDepth 20000
attribute [local go_sem] XK_seq XK_block XK_skip XK_exit XK_ret XK_cond XK_reg XK_dreg XK_ureg KN_seq KN_blk KN_lp KN_chk KN_chku KN_top KN_fin KX_seq KX_lp KX_blk KX_chk KX_top KR_seq KR_blk KR_lp KR_chk KR_top KR_fin FK_true FK_false RK_nil RK_mv RK_pick RK_alloc RK_box RK_build RK_bslice RK_load1 RK_loadA RK_store RK_nilchk RK_bin RK_beq RK_eqv RK_eqnil RK_un RK_conv RK_mkfn RK_mkslice RK_slS RK_slA RK_fadr RK_fld RK_iadrA RK_iadrS RK_idxA RK_istr RK_ext RK_lenC RK_cap RK_app RK_appz RK_pre RK_cpy RK_mn RK_mx RK_len RK_carry RK_clr carryR um0 um1 ThenK_some RK_guard GK_tt GK_ff GK_tf GK_ft GK_none QK_some RK_callQ RK_callZ RK_callT TK_some VK_clo RK_callV
  evalOp evO evOs upd_at unfrz_at putE_some putE_none boolOf_b boolOf_tup Option.map_some evRes pack_one pack_two pack_three pack_none List.getD_cons_zero List.getD_cons_succ getD_nil
  Option.some.injEq exists_eq_left' Reg.cs? fillC setL List.set_cons_zero List.set_cons_succ List.length_cons List.length_nil rd_upd rd_updn rdB wr List.drop_zero List.drop_succ_cons List.take_succ_cons List.take_zero List.getElem?_cons_zero List.getElem?_cons_succ
  ix Int.toNat_zero lenO_sl lenO_nil nadd na_eq na_eq' na_lt na_ee na_ll na_ne na_ne' na_tt
attribute [local go_sem] Reg.flat_one Reg.flat_agg Reg.flat_tup flats_nil flats_cons Cell.flat_sc Cell.flat_ptr List.all_cons List.all_nil disOk safeOk safeR decide_eq_true_eq decide_eq_false_iff_not
  List.map_cons List.map_nil List.cons_append List.nil_append List.append_nil evalOp.capsOf Bool.false_bne Bool.bne_false Bool.true_bne Bool.bne_true bne_self_eq_false beq_self_eq_true Bool.not_not Bool.false_and Bool.and_false Bool.true_or Bool.or_true beq_iff_eq eqCells
  Bool.true_beq Bool.false_beq Bool.not_eq_true' Bool.not_eq_eq_eq_not Bool.not_eq_false' and_false false_and frz_at idOf noId Option.isSome_some Bool.and_eq_true
attribute [local go_sem] wr_eq bV_add bV_sub bV_mul bV_eql bV_neq bV_lss bV_leq bV_gtr bV_geq bV_quo bV_rem bV_shr bV_shl uV_not uV_neg wrapU bits_and bits_or bits_xor IntKind.bits Nat.min_eq_left Nat.min_eq_right Nat.min_self
attribute [local go_sem] bne_iff_ne Int.cast_ofNat_Int Nat.zero_add Nat.add_zero and_self and_true true_and ne_eq not_false_eq_true not_true_eq_false decide_true decide_false Bool.false_eq_true Bool.not_true Bool.not_false Bool.true_and Bool.and_true Bool.or_false Bool.false_or Bool.and_self

/-- What stops that are right hold to. -/
structure StopsR (l : List Stp) : Prop where
  pos : 0 < l.length
  len : l.length ≤ 16
  ok : ∀ (i : Nat) (s : Stp), l[i]? = some s → 0 ≤ s.a ∧ s.a ≤ 65536 ∧ crB s.c0 s.c1 s.c2 s.c3 = true
  up : ∀ (i : Nat) (s t : Stp), l[i]? = some s → l[i + 1]? = some t → s.a ≤ t.a
theorem stTo_at {l : List Stp} {i : Nat} {s : Stp} (hs : l[i]? = some s) : ∀ k, i < k → stTo l k = true → stOk (if i = 0 then none else l[i - 1]?) s = true := by
  intro k
  induction k with
  | zero => intro h; omega
  | succ k ih =>
    intro h1 h2
    simp only [stTo, Bool.and_eq_true] at h2
    by_cases e : i = k
    · subst e
      have h3 := h2.2
      rw [hs] at h3
      exact h3
    · exact ih (by omega) h2.1
theorem stopsR {l : List Stp} (h : stopsB l = true) : StopsR l := by
  simp only [stopsB, lenB, Bool.and_eq_true, decide_eq_true_eq] at h
  refine ⟨by omega, by omega, fun i s hs => ?_, fun i s t hs ht => ?_⟩
  · have hi : i < l.length := (List.getElem?_eq_some_iff.1 hs).1
    have := stTo_at hs _ hi h.2
    simp only [stOk, Bool.and_eq_true, decide_eq_true_eq] at this
    exact ⟨this.1, this.2.1, this.2.2.1⟩
  · have hi : i + 1 < l.length := (List.getElem?_eq_some_iff.1 ht).1
    have := stTo_at ht _ hi h.2
    rw [if_neg (by omega), Nat.add_sub_cancel, hs] at this
    simp only [stOk, Bool.and_eq_true, decide_eq_true_eq] at this
    exact this.2.2.2
theorem StopsR.le {l : List Stp} (h : StopsR l) : ∀ (k i : Nat) (s t : Stp), l[i]? = some s → l[i + k]? = some t → s.a ≤ t.a := by
  intro k
  induction k with
  | zero => intro i s t h1 h2; rw [Nat.add_zero, h1] at h2; cases h2; exact Int.le_refl _
  | succ k ih =>
    intro i s t h1 h2
    have hi : i + (k + 1) < l.length := (List.getElem?_eq_some_iff.1 h2).1
    obtain ⟨u, hu⟩ : ∃ u, l[i + k]? = some u := ⟨l[i + k], List.getElem?_eq_getElem (by omega)⟩
    exact Int.le_trans (ih i s u h1 hu) (h.up (i + k) u t hu h2)
/-- The colour of a shade at a place. -/
def IsShade (l : List Stp) (t : Int) (C : Co) : Prop :=
  (∃ s, l[0]? = some s ∧ t ≤ s.a ∧ C = s.co) ∨
  (∃ (i : Nat) (p s : Stp), l[i]? = some p ∧ l[i + 1]? = some s ∧ (∀ (j : Nat) (u : Stp), j ≤ i → l[j]? = some u → u.a ≤ t) ∧ (∀ u, l[0]? = some u → u.a < t) ∧ t < s.a ∧ C = mixC p.co s.co ((t - p.a) * 65536 / (s.a - p.a))) ∨
  (∃ s, l[l.length - 1]? = some s ∧ (∀ (j : Nat) (u : Stp), l[j]? = some u → u.a ≤ t) ∧ (∀ u, l[0]? = some u → u.a < t) ∧ C = s.co)
theorem IsShade.one {l : List Stp} {t : Int} {C D : Co} (h1 : IsShade l t C) (h2 : IsShade l t D) : C = D := by
  rcases h1 with ⟨s, a1, a2, rfl⟩ | ⟨i, p, s, a1, a2, a3, a4, a5, rfl⟩ | ⟨s, a1, a2, a3, rfl⟩ <;> rcases h2 with ⟨s', b1, b2, rfl⟩ | ⟨i', p', s', b1, b2, b3, b4, b5, rfl⟩ | ⟨s', b1, b2, b3, rfl⟩
  · rw [a1] at b1; cases b1; rfl
  · have := b4 s a1; omega
  · have := b3 s a1; omega
  · have := a4 s' b1; omega
  · have e : i = i' := by
      rcases Nat.lt_trichotomy i i' with h | h | h
      · have := b3 (i + 1) s h a2; omega
      · exact h
      · have := a3 (i' + 1) s' h b2; omega
    subst e
    rw [a1] at b1
    rw [a2] at b2
    cases b1
    cases b2
    rfl
  · have := b2 _ _ a2; omega
  · have := a3 s' b1; omega
  · have := a2 _ _ b2; omega
  · rw [a1] at b1; cases b1; rfl
theorem v_S1 (s : Stp) (t : Int) (b : Nat) {m : Mem} {n : Nat} {o : Bool} (hb : m b = some ⟨[I t], o⟩) (hbn : b < n) : callF TA 41 [.agg s.cs, .one (.ptr b 0)] m n = some (RB (decide (t < s.a))) := by
  refine callF_of (Fn_ofK (fn := F41) rfl (by simp [F41]) ?_)
  have n1 := na_0 hbn
  try simp only [r41_0, r41_1, c41, F41, hb, n1, go_sem, Int.reduceTMod, Int.reduceTDiv, Int.reduceDiv, Int.reduceMod, Int.reduceAdd, Int.reduceSub, Int.reduceMul, Int.reduceNeg, Int.reducePow, Int.reduceEq, ↓reduceIte, Nat.reduceEqDiff, Nat.reduceAdd, Nat.reduceMul, Nat.reduceLeDiff, Nat.reduceSub, Nat.reduceLT, Int.reduceToNat, Int.reduceLT, Int.reduceLE, reduceCtorEq]
  repeat' ((first | refine FK_split (fun h_ => ?_) (fun h_ => ?_) | refine GK_split (fun h_ => ?_) (fun h_ => ?_) | refine ite_both (fun h_ => ?_) (fun h_ => ?_)) <;> (try simp only [decide_eq_true_eq, decide_eq_false_iff_not, Bool.not_true, Bool.not_false, Bool.not_eq_true', Bool.not_eq_false', Bool.not_eq_eq_eq_not, Decidable.not_not] at h_) <;> (try simp only [r41_0, r41_1, c41, F41, hb, n1, h_, go_sem, Int.reduceTMod, Int.reduceTDiv, Int.reduceDiv, Int.reduceMod, Int.reduceAdd, Int.reduceSub, Int.reduceMul, Int.reduceNeg, Int.reducePow, Int.reduceEq, ↓reduceIte, Nat.reduceEqDiff, Nat.reduceAdd, Nat.reduceMul, Nat.reduceLeDiff, Nat.reduceSub, Nat.reduceLT, Int.reduceToNat, Int.reduceLT, Int.reduceLE, reduceCtorEq]))
theorem w_IndexS {r : Reg} {l : List Stp} {t : Int} {b : Nat} {m : Mem} {n : Nat} {o : Bool} (hr : RSt m n r l) (hl : l.length < 4294967296) (hb : m b = some ⟨[I t], o⟩) (hbn : b < n) :
    Fn TA 40 [r, .one (.clo 41 [.ptr b 0])] m n (fun r' _ _ => ∃ k : Int, r' = RI k ∧ ((k = -1 ∧ ∀ (j : Nat) (u : Stp), l[j]? = some u → u.a ≤ t) ∨ (∃ (i : Nat) (s : Stp), k = i ∧ l[i]? = some s ∧ t < s.a ∧ ∀ (j : Nat) (u : Stp), j < i → l[j]? = some u → u.a ≤ t))) := by
  refine Fn_ofK (fn := F40) rfl (by simp [F40]) ?_
  have hlen := hr.len
  try simp only [r40_0, r40_1, r40_2, r40_3, r40_4, r40_5, r40_6, r40_7, c40, F40, hlen, go_sem, Int.reduceTMod, Int.reduceTDiv, Int.reduceDiv, Int.reduceMod, Int.reduceAdd, Int.reduceSub, Int.reduceMul, Int.reduceNeg, Int.reducePow, Int.reduceEq, ↓reduceIte, Nat.reduceEqDiff, Nat.reduceAdd, Nat.reduceMul, Nat.reduceLeDiff, Nat.reduceSub, Nat.reduceLT, Int.reduceToNat, Int.reduceLT, Int.reduceLE, reduceCtorEq]
  repeat' ((first | refine FK_split (fun h_ => ?_) (fun h_ => ?_) | refine GK_split (fun h_ => ?_) (fun h_ => ?_) | refine ite_both (fun h_ => ?_) (fun h_ => ?_)) <;> (try simp only [decide_eq_true_eq, decide_eq_false_iff_not, Bool.not_true, Bool.not_false, Bool.not_eq_true', Bool.not_eq_false', Bool.not_eq_eq_eq_not, Decidable.not_not] at h_) <;> (try simp only [r40_0, r40_1, r40_2, r40_3, r40_4, r40_5, r40_6, r40_7, c40, F40, hlen, h_, go_sem, Int.reduceTMod, Int.reduceTDiv, Int.reduceDiv, Int.reduceMod, Int.reduceAdd, Int.reduceSub, Int.reduceMul, Int.reduceNeg, Int.reducePow, Int.reduceEq, ↓reduceIte, Nat.reduceEqDiff, Nat.reduceAdd, Nat.reduceMul, Nat.reduceLeDiff, Nat.reduceSub, Nat.reduceLT, Int.reduceToNat, Int.reduceLT, Int.reduceLE, reduceCtorEq]))
  refine XK_iter (inv := fun i s => s.e 8 = RI i ∧ s.e 7 = RI l.length ∧ s.e 0 = r ∧ s.e 1 = .one (.clo 41 [.ptr b 0]) ∧ s.m = m ∧ s.n = n ∧ ∀ (j : Nat) (u : Stp), j < i → l[j]? = some u → u.a ≤ t) l.length
    (fun L _ => ⟨fun i hi s hs next => ?_, fun s hs => ?_⟩) 0 (by omega) _ ⟨?_, ?_, ?_, ?_, ?_, ?_, ?_⟩
  · obtain ⟨e, M, N⟩ := s
    obtain ⟨q8, q7, q0, q1, qm, qn, qa⟩ := hs
    simp only at q8 q7 q0 q1 qm qn qa
    subst qm
    subst qn
    have hp : l[i]? = some l[i] := List.getElem?_eq_getElem hi
    obtain ⟨id, off, cap, hr1, hid, hrd⟩ := hr.at cs5 hp
    have vS := v_S1 l[i] t b (m := frz M) (n := N) (o := false) (by rw [frz_at, hb]; rfl) hbn
    generalize l[i] = p at *
    have c2 : ((i : Int) < (l.length : Int)) = True := eq_true (by omega)
    have c3 : (0 ≤ (i : Int)) = True := eq_true (by omega)
    have c7 : IntKind.i64.wrap ((i : Int) + 1) = ((i + 1 : Nat) : Int) := wr_nat (by omega)
    subst hr1
    by_cases hlt : t < p.a
    · skip
      try simp only [r40_0, r40_1, r40_2, r40_3, r40_4, r40_5, r40_6, r40_7, c40, F40, l40_0, q8, q7, q0, q1, c2, c3, c7, hrd, vS, hlt, Int.toNat_natCast, go_sem, Int.reduceTMod, Int.reduceTDiv, Int.reduceDiv, Int.reduceMod, Int.reduceAdd, Int.reduceSub, Int.reduceMul, Int.reduceNeg, Int.reducePow, Int.reduceEq, ↓reduceIte, Nat.reduceEqDiff, Nat.reduceAdd, Nat.reduceMul, Nat.reduceLeDiff, Nat.reduceSub, Nat.reduceLT, Int.reduceToNat, Int.reduceLT, Int.reduceLE, reduceCtorEq]
      repeat' ((first | refine FK_split (fun h_ => ?_) (fun h_ => ?_) | refine GK_split (fun h_ => ?_) (fun h_ => ?_) | refine ite_both (fun h_ => ?_) (fun h_ => ?_)) <;> (try simp only [decide_eq_true_eq, decide_eq_false_iff_not, Bool.not_true, Bool.not_false, Bool.not_eq_true', Bool.not_eq_false', Bool.not_eq_eq_eq_not, Decidable.not_not] at h_) <;> (try simp only [r40_0, r40_1, r40_2, r40_3, r40_4, r40_5, r40_6, r40_7, c40, F40, l40_0, q8, q7, q0, q1, c2, c3, c7, hrd, vS, hlt, Int.toNat_natCast, h_, go_sem, Int.reduceTMod, Int.reduceTDiv, Int.reduceDiv, Int.reduceMod, Int.reduceAdd, Int.reduceSub, Int.reduceMul, Int.reduceNeg, Int.reducePow, Int.reduceEq, ↓reduceIte, Nat.reduceEqDiff, Nat.reduceAdd, Nat.reduceMul, Nat.reduceLeDiff, Nat.reduceSub, Nat.reduceLT, Int.reduceToNat, Int.reduceLT, Int.reduceLE, reduceCtorEq]))
      exact ⟨i, rfl, Or.inr ⟨i, p, rfl, hp, hlt, qa⟩⟩
    · skip
      try simp only [r40_0, r40_1, r40_2, r40_3, r40_4, r40_5, r40_6, r40_7, c40, F40, l40_0, q8, q7, q0, q1, c2, c3, c7, hrd, vS, hlt, Int.toNat_natCast, go_sem, Int.reduceTMod, Int.reduceTDiv, Int.reduceDiv, Int.reduceMod, Int.reduceAdd, Int.reduceSub, Int.reduceMul, Int.reduceNeg, Int.reducePow, Int.reduceEq, ↓reduceIte, Nat.reduceEqDiff, Nat.reduceAdd, Nat.reduceMul, Nat.reduceLeDiff, Nat.reduceSub, Nat.reduceLT, Int.reduceToNat, Int.reduceLT, Int.reduceLE, reduceCtorEq]
      repeat' ((first | refine FK_split (fun h_ => ?_) (fun h_ => ?_) | refine GK_split (fun h_ => ?_) (fun h_ => ?_) | refine ite_both (fun h_ => ?_) (fun h_ => ?_)) <;> (try simp only [decide_eq_true_eq, decide_eq_false_iff_not, Bool.not_true, Bool.not_false, Bool.not_eq_true', Bool.not_eq_false', Bool.not_eq_eq_eq_not, Decidable.not_not] at h_) <;> (try simp only [r40_0, r40_1, r40_2, r40_3, r40_4, r40_5, r40_6, r40_7, c40, F40, l40_0, q8, q7, q0, q1, c2, c3, c7, hrd, vS, hlt, Int.toNat_natCast, h_, go_sem, Int.reduceTMod, Int.reduceTDiv, Int.reduceDiv, Int.reduceMod, Int.reduceAdd, Int.reduceSub, Int.reduceMul, Int.reduceNeg, Int.reducePow, Int.reduceEq, ↓reduceIte, Nat.reduceEqDiff, Nat.reduceAdd, Nat.reduceMul, Nat.reduceLeDiff, Nat.reduceSub, Nat.reduceLT, Int.reduceToNat, Int.reduceLT, Int.reduceLE, reduceCtorEq]))
      refine next _ ⟨?_, ?_, ?_, ?_, ?_, ?_, ?_⟩
      · simp only [go_sem, Int.reduceTMod, Int.reduceTDiv, Int.reduceDiv, Int.reduceMod, Int.reduceAdd, Int.reduceSub, Int.reduceMul, Int.reduceNeg, Int.reducePow, Int.reduceEq, ↓reduceIte, Nat.reduceEqDiff, Nat.reduceAdd, Nat.reduceMul, Nat.reduceLeDiff, Nat.reduceSub, Nat.reduceLT, Int.reduceToNat, Int.reduceLT, Int.reduceLE, reduceCtorEq]
      · simp only [q7, go_sem, Int.reduceTMod, Int.reduceTDiv, Int.reduceDiv, Int.reduceMod, Int.reduceAdd, Int.reduceSub, Int.reduceMul, Int.reduceNeg, Int.reducePow, Int.reduceEq, ↓reduceIte, Nat.reduceEqDiff, Nat.reduceAdd, Nat.reduceMul, Nat.reduceLeDiff, Nat.reduceSub, Nat.reduceLT, Int.reduceToNat, Int.reduceLT, Int.reduceLE, reduceCtorEq]
      · simp only [q0, go_sem, Int.reduceTMod, Int.reduceTDiv, Int.reduceDiv, Int.reduceMod, Int.reduceAdd, Int.reduceSub, Int.reduceMul, Int.reduceNeg, Int.reducePow, Int.reduceEq, ↓reduceIte, Nat.reduceEqDiff, Nat.reduceAdd, Nat.reduceMul, Nat.reduceLeDiff, Nat.reduceSub, Nat.reduceLT, Int.reduceToNat, Int.reduceLT, Int.reduceLE, reduceCtorEq]
      · simp only [q1, go_sem, Int.reduceTMod, Int.reduceTDiv, Int.reduceDiv, Int.reduceMod, Int.reduceAdd, Int.reduceSub, Int.reduceMul, Int.reduceNeg, Int.reducePow, Int.reduceEq, ↓reduceIte, Nat.reduceEqDiff, Nat.reduceAdd, Nat.reduceMul, Nat.reduceLeDiff, Nat.reduceSub, Nat.reduceLT, Int.reduceToNat, Int.reduceLT, Int.reduceLE, reduceCtorEq]
      · rfl
      · rfl
      · intro j u hj hu
        by_cases e : j = i
        · subst e; rw [hp] at hu; cases hu; omega
        · exact qa j u (by omega) hu
  · obtain ⟨e, M, N⟩ := s
    obtain ⟨q8, q7, q0, q1, qm, qn, qa⟩ := hs
    simp only at q8 q7 q0 q1 qm qn qa
    have c2 : ((l.length : Int) < (l.length : Int)) = False := eq_false (by omega)
    try simp only [r40_0, r40_1, r40_2, r40_3, r40_4, r40_5, r40_6, r40_7, c40, F40, l40_0, q8, q7, c2, go_sem, Int.reduceTMod, Int.reduceTDiv, Int.reduceDiv, Int.reduceMod, Int.reduceAdd, Int.reduceSub, Int.reduceMul, Int.reduceNeg, Int.reducePow, Int.reduceEq, ↓reduceIte, Nat.reduceEqDiff, Nat.reduceAdd, Nat.reduceMul, Nat.reduceLeDiff, Nat.reduceSub, Nat.reduceLT, Int.reduceToNat, Int.reduceLT, Int.reduceLE, reduceCtorEq]
    repeat' ((first | refine FK_split (fun h_ => ?_) (fun h_ => ?_) | refine GK_split (fun h_ => ?_) (fun h_ => ?_) | refine ite_both (fun h_ => ?_) (fun h_ => ?_)) <;> (try simp only [decide_eq_true_eq, decide_eq_false_iff_not, Bool.not_true, Bool.not_false, Bool.not_eq_true', Bool.not_eq_false', Bool.not_eq_eq_eq_not, Decidable.not_not] at h_) <;> (try simp only [r40_0, r40_1, r40_2, r40_3, r40_4, r40_5, r40_6, r40_7, c40, F40, l40_0, q8, q7, c2, h_, go_sem, Int.reduceTMod, Int.reduceTDiv, Int.reduceDiv, Int.reduceMod, Int.reduceAdd, Int.reduceSub, Int.reduceMul, Int.reduceNeg, Int.reducePow, Int.reduceEq, ↓reduceIte, Nat.reduceEqDiff, Nat.reduceAdd, Nat.reduceMul, Nat.reduceLeDiff, Nat.reduceSub, Nat.reduceLT, Int.reduceToNat, Int.reduceLT, Int.reduceLE, reduceCtorEq]))
    exact ⟨-1, rfl, Or.inl ⟨rfl, fun j u hu => qa j u (List.getElem?_eq_some_iff.1 hu).1 hu⟩⟩
  · simp only [go_sem, Int.reduceTMod, Int.reduceTDiv, Int.reduceDiv, Int.reduceMod, Int.reduceAdd, Int.reduceSub, Int.reduceMul, Int.reduceNeg, Int.reducePow, Int.reduceEq, ↓reduceIte, Nat.reduceEqDiff, Nat.reduceAdd, Nat.reduceMul, Nat.reduceLeDiff, Nat.reduceSub, Nat.reduceLT, Int.reduceToNat, Int.reduceLT, Int.reduceLE, reduceCtorEq]
  · simp only [go_sem, Int.reduceTMod, Int.reduceTDiv, Int.reduceDiv, Int.reduceMod, Int.reduceAdd, Int.reduceSub, Int.reduceMul, Int.reduceNeg, Int.reducePow, Int.reduceEq, ↓reduceIte, Nat.reduceEqDiff, Nat.reduceAdd, Nat.reduceMul, Nat.reduceLeDiff, Nat.reduceSub, Nat.reduceLT, Int.reduceToNat, Int.reduceLT, Int.reduceLE, reduceCtorEq]
  · simp only [go_sem, Int.reduceTMod, Int.reduceTDiv, Int.reduceDiv, Int.reduceMod, Int.reduceAdd, Int.reduceSub, Int.reduceMul, Int.reduceNeg, Int.reducePow, Int.reduceEq, ↓reduceIte, Nat.reduceEqDiff, Nat.reduceAdd, Nat.reduceMul, Nat.reduceLeDiff, Nat.reduceSub, Nat.reduceLT, Int.reduceToNat, Int.reduceLT, Int.reduceLE, reduceCtorEq]
  · simp only [go_sem, Int.reduceTMod, Int.reduceTDiv, Int.reduceDiv, Int.reduceMod, Int.reduceAdd, Int.reduceSub, Int.reduceMul, Int.reduceNeg, Int.reducePow, Int.reduceEq, ↓reduceIte, Nat.reduceEqDiff, Nat.reduceAdd, Nat.reduceMul, Nat.reduceLeDiff, Nat.reduceSub, Nat.reduceLT, Int.reduceToNat, Int.reduceLT, Int.reduceLE, reduceCtorEq]
  · rfl
  · rfl
  · intro j u hj; omega
end Go.Proofs.Ytffhhgcgnillaaa.Sy
