import Derived.Test.YtidpeongblkcbaaDoorMgH
/- What a pen leaves of a subpath: the reference's. Conditions: those that each theorem names. -/
namespace Go.Proofs.YtidpeongblkcbaaDoor.Sy
open Go Go.Proofs
set_option linter.unusedSimpArgs false
set_option linter.unusedVariables false
set_option maxRecDepth 20000
attribute [local go_sem] XK_seq XK_block XK_skip XK_exit XK_ret XK_cond XK_reg XK_dreg XK_ureg KN_seq KN_blk KN_lp KN_chk KN_chku KN_top KN_fin KX_seq KX_lp KX_blk KX_chk KX_top KR_seq KR_blk KR_lp KR_chk KR_top KR_fin FK_true FK_false RK_nil RK_mv RK_pick RK_alloc RK_box RK_build RK_bslice RK_load1 RK_loadA RK_store RK_nilchk RK_bin RK_beq RK_eqv RK_eqnil RK_un RK_conv RK_mkfn RK_mkslice RK_slS RK_slA RK_fadr RK_fld RK_iadrA RK_iadrS RK_idxA RK_ext RK_lenC RK_cap RK_app RK_cpy RK_mn RK_mx RK_len RK_carry RK_clr carryR um0 um1 ThenK_some RK_guard GK_tt GK_ff GK_tf GK_ft GK_none QK_some RK_callQ RK_callZ VK_clo RK_callV
  evalOp evO evOs upd_at unfrz_at putE_some putE_none boolOf_b boolOf_tup Option.map_some evRes pack_one pack_two pack_three pack_none List.getD_cons_zero List.getD_cons_succ getD_nil
  Option.some.injEq exists_eq_left' Reg.cs? fillC setL List.set_cons_zero List.set_cons_succ List.length_cons List.length_nil rd_upd rd_updn rdB wr List.drop_zero List.drop_succ_cons List.take_succ_cons List.take_zero List.getElem?_cons_zero List.getElem?_cons_succ
  ix Int.toNat_zero lenO_sl lenO_nil nadd na_eq na_eq' na_lt na_ee na_ll na_ne na_ne' na_tt
attribute [local go_sem] Reg.flat_one Reg.flat_agg Reg.flat_tup flats_nil flats_cons Cell.flat_sc Cell.flat_ptr List.all_cons List.all_nil disOk safeOk safeR decide_eq_true_eq decide_eq_false_iff_not
  List.map_cons List.map_nil List.cons_append List.nil_append List.append_nil evalOp.capsOf Bool.false_bne Bool.bne_false Bool.true_bne Bool.bne_true bne_self_eq_false beq_self_eq_true Bool.not_not Bool.false_and Bool.and_false Bool.true_or Bool.or_true beq_iff_eq eqCells
  Bool.true_beq Bool.false_beq Bool.not_eq_true' Bool.not_eq_eq_eq_not Bool.not_eq_false' and_false false_and frz_at idOf Option.isSome_some Bool.and_eq_true
attribute [local go_sem] wr_eq bV_add bV_sub bV_mul bV_eql bV_neq bV_lss bV_leq bV_gtr bV_geq bV_quo bV_rem bV_shr bV_shl uV_not uV_neg wrapU bits_and bits_or bits_xor IntKind.bits Nat.min_eq_left Nat.min_eq_right Nat.min_self
attribute [local go_sem] bne_iff_ne Int.cast_ofNat_Int Nat.zero_add Nat.add_zero and_self and_true true_and ne_eq not_false_eq_true not_true_eq_false decide_true decide_false Bool.false_eq_true Bool.not_true Bool.not_false Bool.true_and Bool.and_true Bool.or_false Bool.false_or Bool.and_self

def RStrokeQ (its : List (Bool × List Pt)) (n : Nat) (r' : Reg) (m' : Mem) (n' : Nat) : Prop :=
  ∃ x, r' = .tup [x, RB (its.all (·.1))] ∧ (its.all (·.1) = false → x = rnil) ∧ (its.all (·.1) = true → ∃ pid, n ≤ pid + 1 ∧ OPs pid pid pid m' n' x (its.map (·.2)))
theorem discs_okR (h : Int) (l : List Pt) (c : Bool) : ∀ i, ∀ x ∈ discsTo h l c i, x.1 = x.2.all inP
  | 0, x, hx => by cases hx
  | i + 1, x, hx => by
    rw [discsTo, List.mem_append] at hx
    rcases hx with hx | hx
    · exact discs_okR h l c i x hx
    · unfold discAt at hx
      split at hx
      · split at hx
        · rw [List.mem_singleton] at hx; subst hx; rfl
        · cases hx
      · cases hx
theorem barAt_l16 (h : Int) (l : List Pt) (i j : Nat) : ∀ x ∈ barAt h l i j, x.2.length < 4294967296 := fun x hx => by
  unfold barAt at hx
  split at hx
  · rw [List.mem_singleton] at hx; subst hx; show 4 < 4294967296; decide
  · cases hx
theorem bars_l16 (h : Int) (l : List Pt) : ∀ i, ∀ x ∈ barsTo h l i, x.2.length < 4294967296
  | 0, x, hx => by cases hx
  | i + 1, x, hx => by
    rw [barsTo, List.mem_append] at hx
    rcases hx with hx | hx
    · exact bars_l16 h l i x hx
    · exact barAt_l16 h l _ _ x hx
theorem discs_l16 (h : Int) (l : List Pt) (c : Bool) : ∀ i, ∀ x ∈ discsTo h l c i, x.2.length < 4294967296
  | 0, x, hx => by cases hx
  | i + 1, x, hx => by
    rw [discsTo, List.mem_append] at hx
    rcases hx with hx | hx
    · exact discs_l16 h l c i x hx
    · unfold discAt at hx
      split at hx
      · split at hx
        · rw [List.mem_singleton] at hx; subst hx; show 16 < 4294967296; decide
        · cases hx
      · cases hx
theorem along_l16 (h : Int) (l : List Pt) (c : Bool) : ∀ x ∈ alongI h l c, x.2.length < 4294967296 := fun x hx => by
  unfold alongI at hx
  rw [List.mem_append, List.mem_append] at hx
  rcases hx with (hx | hx) | hx
  · exact bars_l16 h l _ x hx
  · split at hx
    · exact barAt_l16 h l _ _ x hx
    · cases hx
  · exact discs_l16 h l c _ x hx
theorem all_okR {its : List (Bool × List Pt)} (h : ∀ x ∈ its, x.1 = x.2.all inP) : its.all (·.1) = (its.map (·.2)).all (·.all inP) := by
  induction its with
  | nil => rfl
  | cons x its ih =>
    rw [List.all_cons, List.map_cons, List.all_cons, h x (List.mem_cons_self ..), ih (fun y hy => h y (List.mem_cons_of_mem _ hy))]
theorem w_rStroke {r : Reg} {l : List Pt} {c : Bool} {h cap : Int} {m : Mem} {n : Nat} (hr : RPt m n r l) (hl : l.length < 1000000) (h0n : 0 < n) (h1 : 1 ≤ h) (h2 : h ≤ 32768) (k1 : 0 ≤ cap) (k2 : cap ≤ 2) (hi : l.all inP = true) :
    Fn TA 18 [r, RB c, RI h, RI cap] m n (RStrokeQ (strokeI (plainL l c) c h cap) n) := by
  refine Fn_ofK (fn := F18) rfl (by simp [F18]) ?_
  try simp only [r18_0, r18_1, r18_2, r18_3, r18_4, r18_5, r18_6, r18_7, r18_8, r18_9, r18_10, r18_12, r18_13, r18_14, r18_15, r18_16, r18_11, r18_17, r18_18, r18_20, r18_21, r18_19, r18_22, r18_23, r18_24, r18_25, r18_26, r18_27, r18_29, r18_30, r18_28, r18_31, c18, F18, go_sem, Int.reduceTMod, Int.reduceTDiv, Int.reduceDiv, Int.reduceMod, Int.reduceAdd, Int.reduceSub, Int.reduceMul, Int.reduceNeg, Int.reducePow, Int.reduceEq, ↓reduceIte, Nat.reduceEqDiff, Nat.reduceAdd, Nat.reduceMul, Nat.reduceLeDiff, Nat.reduceSub, Nat.reduceLT, Int.reduceToNat, Int.reduceLT, Int.reduceLE, reduceCtorEq]
  repeat' ((first | refine FK_split (fun h_ => ?_) (fun h_ => ?_) | refine GK_split (fun h_ => ?_) (fun h_ => ?_) | refine ite_both (fun h_ => ?_) (fun h_ => ?_)) <;> (try simp only [decide_eq_true_eq, decide_eq_false_iff_not, Bool.not_true, Bool.not_false, Bool.not_eq_true', Bool.not_eq_false', Bool.not_eq_eq_eq_not, Decidable.not_not] at h_) <;> (try simp only [r18_0, r18_1, r18_2, r18_3, r18_4, r18_5, r18_6, r18_7, r18_8, r18_9, r18_10, r18_12, r18_13, r18_14, r18_15, r18_16, r18_11, r18_17, r18_18, r18_20, r18_21, r18_19, r18_22, r18_23, r18_24, r18_25, r18_26, r18_27, r18_29, r18_30, r18_28, r18_31, c18, F18, h_, go_sem, Int.reduceTMod, Int.reduceTDiv, Int.reduceDiv, Int.reduceMod, Int.reduceAdd, Int.reduceSub, Int.reduceMul, Int.reduceNeg, Int.reducePow, Int.reduceEq, ↓reduceIte, Nat.reduceEqDiff, Nat.reduceAdd, Nat.reduceMul, Nat.reduceLeDiff, Nat.reduceSub, Nat.reduceLT, Int.reduceToNat, Int.reduceLT, Int.reduceLE, reduceCtorEq]))
  refine RK_callk ?_
  refine (w_PlainC c r l _ _ hr.frz (by omega)).mono ?_
  rintro r1 m1 n1 ⟨hn1, hr1, hs1⟩
  obtain ⟨M, hM⟩ : ∃ M, M = unfrz m n m1 := ⟨_, rfl⟩
  rw [← hM, show max n n1 = n1 by omega]
  have hr2 : RPt M n1 r1 (plainL l c) := hr1.keep' (Nat.le_refl _) (fun id hid => by rw [hM, unfrz_at, if_neg (by have := hs1 id hid; omega)])
  have hpl := plain_len l c
  have hal := plain_all (c := c) hi
  have hadj := @plain_adj l c
  have hends : c = true → 1 < (plainL l c).length → (plainL l c)[(plainL l c).length - 1]? ≠ (plainL l c)[0]? := fun hc hlt => by subst hc; exact plain_ends hlt
  generalize hq : plainL l c = q at *
  have hlen := hr2.len
  rcases (show q.length = 0 ∨ q.length = 1 ∨ 1 < q.length by omega) with z | z | z
  · have hs : strokeI q c h cap = [] := by unfold strokeI; rw [if_neg (by omega), if_neg (by omega)]
    have c1 : ((q.length : Int) = 1) = False := eq_false (by omega)
    have c2 : (1 < (q.length : Int)) = False := eq_false (by omega)
    have hln : lenO (.one (.sc (.slice none 0 0))) = some 0 := rfl
    try simp only [r18_0, r18_1, r18_2, r18_3, r18_4, r18_5, r18_6, r18_7, r18_8, r18_9, r18_10, r18_12, r18_13, r18_14, r18_15, r18_16, r18_11, r18_17, r18_18, r18_20, r18_21, r18_19, r18_22, r18_23, r18_24, r18_25, r18_26, r18_27, r18_29, r18_30, r18_28, r18_31, c18, F18, l18_0, l18_1, l18_2, hlen, hln, c1, c2, XK_loop, go_sem, Int.reduceTMod, Int.reduceTDiv, Int.reduceDiv, Int.reduceMod, Int.reduceAdd, Int.reduceSub, Int.reduceMul, Int.reduceNeg, Int.reducePow, Int.reduceEq, ↓reduceIte, Nat.reduceEqDiff, Nat.reduceAdd, Nat.reduceMul, Nat.reduceLeDiff, Nat.reduceSub, Nat.reduceLT, Int.reduceToNat, Int.reduceLT, Int.reduceLE, reduceCtorEq]
    repeat' ((first | refine FK_split (fun h_ => ?_) (fun h_ => ?_) | refine GK_split (fun h_ => ?_) (fun h_ => ?_) | refine ite_both (fun h_ => ?_) (fun h_ => ?_)) <;> (try simp only [decide_eq_true_eq, decide_eq_false_iff_not, Bool.not_true, Bool.not_false, Bool.not_eq_true', Bool.not_eq_false', Bool.not_eq_eq_eq_not, Decidable.not_not] at h_) <;> (try simp only [r18_0, r18_1, r18_2, r18_3, r18_4, r18_5, r18_6, r18_7, r18_8, r18_9, r18_10, r18_12, r18_13, r18_14, r18_15, r18_16, r18_11, r18_17, r18_18, r18_20, r18_21, r18_19, r18_22, r18_23, r18_24, r18_25, r18_26, r18_27, r18_29, r18_30, r18_28, r18_31, c18, F18, l18_0, l18_1, l18_2, hlen, hln, c1, c2, XK_loop, h_, go_sem, Int.reduceTMod, Int.reduceTDiv, Int.reduceDiv, Int.reduceMod, Int.reduceAdd, Int.reduceSub, Int.reduceMul, Int.reduceNeg, Int.reducePow, Int.reduceEq, ↓reduceIte, Nat.reduceEqDiff, Nat.reduceAdd, Nat.reduceMul, Nat.reduceLeDiff, Nat.reduceSub, Nat.reduceLT, Int.reduceToNat, Int.reduceLT, Int.reduceLE, reduceCtorEq]))
    rw [hs]
    exact ⟨rnil, rfl, fun _ => rfl, fun _ => ⟨n1, by omega, OPs.nil⟩⟩
  · have hp : q[0]? = some (q[0]'(by omega)) := List.getElem?_eq_getElem (by omega)
    obtain ⟨id, off, cap', hra, hid, hrd⟩ := hr2.at cs2 hp
    have ip := all_at hal hp
    rw [Nat.zero_mul, Nat.add_zero] at hrd
    have c1 : ((q.length : Int) = 1) = True := eq_true (by omega)
    have c2 : (1 < (q.length : Int)) = False := eq_false (by omega)
    have c3 : ((0 : Int) < (q.length : Int)) = True := eq_true (by omega)
    have hs : strokeI q c h cap = (if cap = 1 then [discI h (q[0]'(by omega))] else if cap = 2 then [sqI h (q[0]'(by omega))] else []) := by
      unfold strokeI; rw [if_pos z]; unfold at1; rw [hp]
    generalize (q[0]'(by omega)) = u at *
    have hln : lenO (.one (.sc (.slice none 0 0))) = some 0 := rfl
    rcases (show cap = 0 ∨ cap = 1 ∨ cap = 2 by omega) with rfl | rfl | rfl
    · rw [if_neg (by decide), if_neg (by decide)] at hs
      try simp only [r18_0, r18_1, r18_2, r18_3, r18_4, r18_5, r18_6, r18_7, r18_8, r18_9, r18_10, r18_12, r18_13, r18_14, r18_15, r18_16, r18_11, r18_17, r18_18, r18_20, r18_21, r18_19, r18_22, r18_23, r18_24, r18_25, r18_26, r18_27, r18_29, r18_30, r18_28, r18_31, c18, F18, l18_0, l18_1, l18_2, hlen, hln, c1, c2, XK_loop, go_sem, Int.reduceTMod, Int.reduceTDiv, Int.reduceDiv, Int.reduceMod, Int.reduceAdd, Int.reduceSub, Int.reduceMul, Int.reduceNeg, Int.reducePow, Int.reduceEq, ↓reduceIte, Nat.reduceEqDiff, Nat.reduceAdd, Nat.reduceMul, Nat.reduceLeDiff, Nat.reduceSub, Nat.reduceLT, Int.reduceToNat, Int.reduceLT, Int.reduceLE, reduceCtorEq]
      repeat' ((first | refine FK_split (fun h_ => ?_) (fun h_ => ?_) | refine GK_split (fun h_ => ?_) (fun h_ => ?_) | refine ite_both (fun h_ => ?_) (fun h_ => ?_)) <;> (try simp only [decide_eq_true_eq, decide_eq_false_iff_not, Bool.not_true, Bool.not_false, Bool.not_eq_true', Bool.not_eq_false', Bool.not_eq_eq_eq_not, Decidable.not_not] at h_) <;> (try simp only [r18_0, r18_1, r18_2, r18_3, r18_4, r18_5, r18_6, r18_7, r18_8, r18_9, r18_10, r18_12, r18_13, r18_14, r18_15, r18_16, r18_11, r18_17, r18_18, r18_20, r18_21, r18_19, r18_22, r18_23, r18_24, r18_25, r18_26, r18_27, r18_29, r18_30, r18_28, r18_31, c18, F18, l18_0, l18_1, l18_2, hlen, hln, c1, c2, XK_loop, h_, go_sem, Int.reduceTMod, Int.reduceTDiv, Int.reduceDiv, Int.reduceMod, Int.reduceAdd, Int.reduceSub, Int.reduceMul, Int.reduceNeg, Int.reducePow, Int.reduceEq, ↓reduceIte, Nat.reduceEqDiff, Nat.reduceAdd, Nat.reduceMul, Nat.reduceLeDiff, Nat.reduceSub, Nat.reduceLT, Int.reduceToNat, Int.reduceLT, Int.reduceLE, reduceCtorEq]))
      rw [hs]
      exact ⟨rnil, rfl, fun _ => rfl, fun _ => ⟨n1, by omega, OPs.nil⟩⟩
    · rw [if_pos rfl] at hs
      rw [hra]
      try simp only [r18_0, r18_1, r18_2, r18_3, r18_4, r18_5, r18_6, r18_7, r18_8, r18_9, r18_10, r18_12, r18_13, r18_14, r18_15, r18_16, r18_11, r18_17, r18_18, r18_20, r18_21, r18_19, r18_22, r18_23, r18_24, r18_25, r18_26, r18_27, r18_29, r18_30, r18_28, r18_31, c18, F18, l18_0, l18_1, l18_2, lenO, c1, c2, c3, hrd, Int.toNat_zero, Int.reduceToNat, Nat.zero_mul, Nat.add_zero, go_sem, Int.reduceTMod, Int.reduceTDiv, Int.reduceDiv, Int.reduceMod, Int.reduceAdd, Int.reduceSub, Int.reduceMul, Int.reduceNeg, Int.reducePow, Int.reduceEq, ↓reduceIte, Nat.reduceEqDiff, Nat.reduceAdd, Nat.reduceMul, Nat.reduceLeDiff, Nat.reduceSub, Nat.reduceLT, Int.reduceToNat, Int.reduceLT, Int.reduceLE, reduceCtorEq]
      repeat' ((first | refine FK_split (fun h_ => ?_) (fun h_ => ?_) | refine GK_split (fun h_ => ?_) (fun h_ => ?_) | refine ite_both (fun h_ => ?_) (fun h_ => ?_)) <;> (try simp only [decide_eq_true_eq, decide_eq_false_iff_not, Bool.not_true, Bool.not_false, Bool.not_eq_true', Bool.not_eq_false', Bool.not_eq_eq_eq_not, Decidable.not_not] at h_) <;> (try simp only [r18_0, r18_1, r18_2, r18_3, r18_4, r18_5, r18_6, r18_7, r18_8, r18_9, r18_10, r18_12, r18_13, r18_14, r18_15, r18_16, r18_11, r18_17, r18_18, r18_20, r18_21, r18_19, r18_22, r18_23, r18_24, r18_25, r18_26, r18_27, r18_29, r18_30, r18_28, r18_31, c18, F18, l18_0, l18_1, l18_2, lenO, c1, c2, c3, hrd, Int.toNat_zero, Int.reduceToNat, Nat.zero_mul, Nat.add_zero, h_, go_sem, Int.reduceTMod, Int.reduceTDiv, Int.reduceDiv, Int.reduceMod, Int.reduceAdd, Int.reduceSub, Int.reduceMul, Int.reduceNeg, Int.reducePow, Int.reduceEq, ↓reduceIte, Nat.reduceEqDiff, Nat.reduceAdd, Nat.reduceMul, Nat.reduceLeDiff, Nat.reduceSub, Nat.reduceLT, Int.reduceToNat, Int.reduceLT, Int.reduceLE, reduceCtorEq]))
      refine RK_callk ?_
      refine (w_rDiscP ip h1 h2 _ _).mono ?_
      rintro r3 m3 n3 ⟨hn3, x, rfl, hx, hxi⟩
      obtain ⟨hO2, hx2, hx3⟩ := row_after (p := n1 - 1) (ls := []) (OPs.nil (m := M) (n := n1)) (by omega) hx hxi
      try simp only [r18_0, r18_1, r18_2, r18_3, r18_4, r18_5, r18_6, r18_7, r18_8, r18_9, r18_10, r18_12, r18_13, r18_14, r18_15, r18_16, r18_11, r18_17, r18_18, r18_20, r18_21, r18_19, r18_22, r18_23, r18_24, r18_25, r18_26, r18_27, r18_29, r18_30, r18_28, r18_31, c18, F18, go_sem, Int.reduceTMod, Int.reduceTDiv, Int.reduceDiv, Int.reduceMod, Int.reduceAdd, Int.reduceSub, Int.reduceMul, Int.reduceNeg, Int.reducePow, Int.reduceEq, ↓reduceIte, Nat.reduceEqDiff, Nat.reduceAdd, Nat.reduceMul, Nat.reduceLeDiff, Nat.reduceSub, Nat.reduceLT, Int.reduceToNat, Int.reduceLT, Int.reduceLE, reduceCtorEq]
      repeat' ((first | refine FK_split (fun h_ => ?_) (fun h_ => ?_) | refine GK_split (fun h_ => ?_) (fun h_ => ?_) | refine ite_both (fun h_ => ?_) (fun h_ => ?_)) <;> (try simp only [decide_eq_true_eq, decide_eq_false_iff_not, Bool.not_true, Bool.not_false, Bool.not_eq_true', Bool.not_eq_false', Bool.not_eq_eq_eq_not, Decidable.not_not] at h_) <;> (try simp only [r18_0, r18_1, r18_2, r18_3, r18_4, r18_5, r18_6, r18_7, r18_8, r18_9, r18_10, r18_12, r18_13, r18_14, r18_15, r18_16, r18_11, r18_17, r18_18, r18_20, r18_21, r18_19, r18_22, r18_23, r18_24, r18_25, r18_26, r18_27, r18_29, r18_30, r18_28, r18_31, c18, F18, h_, go_sem, Int.reduceTMod, Int.reduceTDiv, Int.reduceDiv, Int.reduceMod, Int.reduceAdd, Int.reduceSub, Int.reduceMul, Int.reduceNeg, Int.reducePow, Int.reduceEq, ↓reduceIte, Nat.reduceEqDiff, Nat.reduceAdd, Nat.reduceMul, Nat.reduceLeDiff, Nat.reduceSub, Nat.reduceLT, Int.reduceToNat, Int.reduceLT, Int.reduceLE, reduceCtorEq]))
      refine row_push hO2 (by omega) hx2 hx3 (by decide) ?_
      intro c' m' hO3 hf
      try simp only [r18_0, r18_1, r18_2, r18_3, r18_4, r18_5, r18_6, r18_7, r18_8, r18_9, r18_10, r18_12, r18_13, r18_14, r18_15, r18_16, r18_11, r18_17, r18_18, r18_20, r18_21, r18_19, r18_22, r18_23, r18_24, r18_25, r18_26, r18_27, r18_29, r18_30, r18_28, r18_31, c18, F18, l18_0, l18_1, l18_2, c1, c2, lenO, go_sem, Int.reduceTMod, Int.reduceTDiv, Int.reduceDiv, Int.reduceMod, Int.reduceAdd, Int.reduceSub, Int.reduceMul, Int.reduceNeg, Int.reducePow, Int.reduceEq, ↓reduceIte, Nat.reduceEqDiff, Nat.reduceAdd, Nat.reduceMul, Nat.reduceLeDiff, Nat.reduceSub, Nat.reduceLT, Int.reduceToNat, Int.reduceLT, Int.reduceLE, reduceCtorEq]
      repeat' ((first | refine FK_split (fun h_ => ?_) (fun h_ => ?_) | refine GK_split (fun h_ => ?_) (fun h_ => ?_) | refine ite_both (fun h_ => ?_) (fun h_ => ?_)) <;> (try simp only [decide_eq_true_eq, decide_eq_false_iff_not, Bool.not_true, Bool.not_false, Bool.not_eq_true', Bool.not_eq_false', Bool.not_eq_eq_eq_not, Decidable.not_not] at h_) <;> (try simp only [r18_0, r18_1, r18_2, r18_3, r18_4, r18_5, r18_6, r18_7, r18_8, r18_9, r18_10, r18_12, r18_13, r18_14, r18_15, r18_16, r18_11, r18_17, r18_18, r18_20, r18_21, r18_19, r18_22, r18_23, r18_24, r18_25, r18_26, r18_27, r18_29, r18_30, r18_28, r18_31, c18, F18, l18_0, l18_1, l18_2, c1, c2, lenO, h_, go_sem, Int.reduceTMod, Int.reduceTDiv, Int.reduceDiv, Int.reduceMod, Int.reduceAdd, Int.reduceSub, Int.reduceMul, Int.reduceNeg, Int.reducePow, Int.reduceEq, ↓reduceIte, Nat.reduceEqDiff, Nat.reduceAdd, Nat.reduceMul, Nat.reduceLeDiff, Nat.reduceSub, Nat.reduceLT, Int.reduceToNat, Int.reduceLT, Int.reduceLE, reduceCtorEq]))
      rw [XK_loop]
      try simp only [r18_0, r18_1, r18_2, r18_3, r18_4, r18_5, r18_6, r18_7, r18_8, r18_9, r18_10, r18_12, r18_13, r18_14, r18_15, r18_16, r18_11, r18_17, r18_18, r18_20, r18_21, r18_19, r18_22, r18_23, r18_24, r18_25, r18_26, r18_27, r18_29, r18_30, r18_28, r18_31, c18, F18, l18_0, l18_1, l18_2, c1, c2, go_sem, Int.reduceTMod, Int.reduceTDiv, Int.reduceDiv, Int.reduceMod, Int.reduceAdd, Int.reduceSub, Int.reduceMul, Int.reduceNeg, Int.reducePow, Int.reduceEq, ↓reduceIte, Nat.reduceEqDiff, Nat.reduceAdd, Nat.reduceMul, Nat.reduceLeDiff, Nat.reduceSub, Nat.reduceLT, Int.reduceToNat, Int.reduceLT, Int.reduceLE, reduceCtorEq]
      repeat' ((first | refine FK_split (fun h_ => ?_) (fun h_ => ?_) | refine GK_split (fun h_ => ?_) (fun h_ => ?_) | refine ite_both (fun h_ => ?_) (fun h_ => ?_)) <;> (try simp only [decide_eq_true_eq, decide_eq_false_iff_not, Bool.not_true, Bool.not_false, Bool.not_eq_true', Bool.not_eq_false', Bool.not_eq_eq_eq_not, Decidable.not_not] at h_) <;> (try simp only [r18_0, r18_1, r18_2, r18_3, r18_4, r18_5, r18_6, r18_7, r18_8, r18_9, r18_10, r18_12, r18_13, r18_14, r18_15, r18_16, r18_11, r18_17, r18_18, r18_20, r18_21, r18_19, r18_22, r18_23, r18_24, r18_25, r18_26, r18_27, r18_29, r18_30, r18_28, r18_31, c18, F18, l18_0, l18_1, l18_2, c1, c2, h_, go_sem, Int.reduceTMod, Int.reduceTDiv, Int.reduceDiv, Int.reduceMod, Int.reduceAdd, Int.reduceSub, Int.reduceMul, Int.reduceNeg, Int.reducePow, Int.reduceEq, ↓reduceIte, Nat.reduceEqDiff, Nat.reduceAdd, Nat.reduceMul, Nat.reduceLeDiff, Nat.reduceSub, Nat.reduceLT, Int.reduceToNat, Int.reduceLT, Int.reduceLE, reduceCtorEq]))
      rw [XK_loop]
      try simp only [r18_0, r18_1, r18_2, r18_3, r18_4, r18_5, r18_6, r18_7, r18_8, r18_9, r18_10, r18_12, r18_13, r18_14, r18_15, r18_16, r18_11, r18_17, r18_18, r18_20, r18_21, r18_19, r18_22, r18_23, r18_24, r18_25, r18_26, r18_27, r18_29, r18_30, r18_28, r18_31, c18, F18, l18_0, l18_1, l18_2, c1, c2, go_sem, Int.reduceTMod, Int.reduceTDiv, Int.reduceDiv, Int.reduceMod, Int.reduceAdd, Int.reduceSub, Int.reduceMul, Int.reduceNeg, Int.reducePow, Int.reduceEq, ↓reduceIte, Nat.reduceEqDiff, Nat.reduceAdd, Nat.reduceMul, Nat.reduceLeDiff, Nat.reduceSub, Nat.reduceLT, Int.reduceToNat, Int.reduceLT, Int.reduceLE, reduceCtorEq]
      repeat' ((first | refine FK_split (fun h_ => ?_) (fun h_ => ?_) | refine GK_split (fun h_ => ?_) (fun h_ => ?_) | refine ite_both (fun h_ => ?_) (fun h_ => ?_)) <;> (try simp only [decide_eq_true_eq, decide_eq_false_iff_not, Bool.not_true, Bool.not_false, Bool.not_eq_true', Bool.not_eq_false', Bool.not_eq_eq_eq_not, Decidable.not_not] at h_) <;> (try simp only [r18_0, r18_1, r18_2, r18_3, r18_4, r18_5, r18_6, r18_7, r18_8, r18_9, r18_10, r18_12, r18_13, r18_14, r18_15, r18_16, r18_11, r18_17, r18_18, r18_20, r18_21, r18_19, r18_22, r18_23, r18_24, r18_25, r18_26, r18_27, r18_29, r18_30, r18_28, r18_31, c18, F18, l18_0, l18_1, l18_2, c1, c2, h_, go_sem, Int.reduceTMod, Int.reduceTDiv, Int.reduceDiv, Int.reduceMod, Int.reduceAdd, Int.reduceSub, Int.reduceMul, Int.reduceNeg, Int.reducePow, Int.reduceEq, ↓reduceIte, Nat.reduceEqDiff, Nat.reduceAdd, Nat.reduceMul, Nat.reduceLeDiff, Nat.reduceSub, Nat.reduceLT, Int.reduceToNat, Int.reduceLT, Int.reduceLE, reduceCtorEq]))
      have hr1' : strokeI q c h 1 = [discI h u] := hs
      have e1 : (strokeI q c h 1).map (·.2) = [] ++ [disc u.x u.y h] := by rw [hr1']; rfl
      have e2 : (strokeI q c h 1).all (·.1) = (disc u.x u.y h).all inP := by rw [hr1']; simp [discI]
      refine rroom_loop hO3 (by simp) (fun l hl => ?_) ?_ ?_ (fun ha s a b d f => ?_) (fun ha s d f g => ?_)
      · simp only [List.nil_append, List.mem_singleton] at hl
        rw [hl]
        show 16 < 4294967296
        decide
      · simp only [go_sem, Int.reduceTMod, Int.reduceTDiv, Int.reduceDiv, Int.reduceMod, Int.reduceAdd, Int.reduceSub, Int.reduceMul, Int.reduceNeg, Int.reducePow, Int.reduceEq, ↓reduceIte, Nat.reduceEqDiff, Nat.reduceAdd, Nat.reduceMul, Nat.reduceLeDiff, Nat.reduceSub, Nat.reduceLT, Int.reduceToNat, Int.reduceLT, Int.reduceLE, reduceCtorEq]
      · simp only [go_sem, Int.reduceTMod, Int.reduceTDiv, Int.reduceDiv, Int.reduceMod, Int.reduceAdd, Int.reduceSub, Int.reduceMul, Int.reduceNeg, Int.reducePow, Int.reduceEq, ↓reduceIte, Nat.reduceEqDiff, Nat.reduceAdd, Nat.reduceMul, Nat.reduceLeDiff, Nat.reduceSub, Nat.reduceLT, Int.reduceToNat, Int.reduceLT, Int.reduceLE, reduceCtorEq]
      · skip
        try simp only [a, b, go_sem, Int.reduceTMod, Int.reduceTDiv, Int.reduceDiv, Int.reduceMod, Int.reduceAdd, Int.reduceSub, Int.reduceMul, Int.reduceNeg, Int.reducePow, Int.reduceEq, ↓reduceIte, Nat.reduceEqDiff, Nat.reduceAdd, Nat.reduceMul, Nat.reduceLeDiff, Nat.reduceSub, Nat.reduceLT, Int.reduceToNat, Int.reduceLT, Int.reduceLE, reduceCtorEq]
        repeat' ((first | refine FK_split (fun h_ => ?_) (fun h_ => ?_) | refine GK_split (fun h_ => ?_) (fun h_ => ?_) | refine ite_both (fun h_ => ?_) (fun h_ => ?_)) <;> (try simp only [decide_eq_true_eq, decide_eq_false_iff_not, Bool.not_true, Bool.not_false, Bool.not_eq_true', Bool.not_eq_false', Bool.not_eq_eq_eq_not, Decidable.not_not] at h_) <;> (try simp only [a, b, h_, go_sem, Int.reduceTMod, Int.reduceTDiv, Int.reduceDiv, Int.reduceMod, Int.reduceAdd, Int.reduceSub, Int.reduceMul, Int.reduceNeg, Int.reducePow, Int.reduceEq, ↓reduceIte, Nat.reduceEqDiff, Nat.reduceAdd, Nat.reduceMul, Nat.reduceLeDiff, Nat.reduceSub, Nat.reduceLT, Int.reduceToNat, Int.reduceLT, Int.reduceLE, reduceCtorEq]))
        refine ⟨rnil, ?_, fun _ => rfl, fun h => ?_⟩
        · rw [e2]
          simp only [List.nil_append, List.all_cons, List.all_nil, Bool.and_true] at ha
          rw [ha]
        · rw [e2] at h
          simp only [List.nil_append, List.all_cons, List.all_nil, Bool.and_true] at ha
          rw [ha] at h; cases h
      · skip
        try simp only [r18_0, r18_1, r18_2, r18_3, r18_4, r18_5, r18_6, r18_7, r18_8, r18_9, r18_10, r18_12, r18_13, r18_14, r18_15, r18_16, r18_11, r18_17, r18_18, r18_20, r18_21, r18_19, r18_22, r18_23, r18_24, r18_25, r18_26, r18_27, r18_29, r18_30, r18_28, r18_31, c18, F18, g, go_sem, Int.reduceTMod, Int.reduceTDiv, Int.reduceDiv, Int.reduceMod, Int.reduceAdd, Int.reduceSub, Int.reduceMul, Int.reduceNeg, Int.reducePow, Int.reduceEq, ↓reduceIte, Nat.reduceEqDiff, Nat.reduceAdd, Nat.reduceMul, Nat.reduceLeDiff, Nat.reduceSub, Nat.reduceLT, Int.reduceToNat, Int.reduceLT, Int.reduceLE, reduceCtorEq]
        repeat' ((first | refine FK_split (fun h_ => ?_) (fun h_ => ?_) | refine GK_split (fun h_ => ?_) (fun h_ => ?_) | refine ite_both (fun h_ => ?_) (fun h_ => ?_)) <;> (try simp only [decide_eq_true_eq, decide_eq_false_iff_not, Bool.not_true, Bool.not_false, Bool.not_eq_true', Bool.not_eq_false', Bool.not_eq_eq_eq_not, Decidable.not_not] at h_) <;> (try simp only [r18_0, r18_1, r18_2, r18_3, r18_4, r18_5, r18_6, r18_7, r18_8, r18_9, r18_10, r18_12, r18_13, r18_14, r18_15, r18_16, r18_11, r18_17, r18_18, r18_20, r18_21, r18_19, r18_22, r18_23, r18_24, r18_25, r18_26, r18_27, r18_29, r18_30, r18_28, r18_31, c18, F18, g, h_, go_sem, Int.reduceTMod, Int.reduceTDiv, Int.reduceDiv, Int.reduceMod, Int.reduceAdd, Int.reduceSub, Int.reduceMul, Int.reduceNeg, Int.reducePow, Int.reduceEq, ↓reduceIte, Nat.reduceEqDiff, Nat.reduceAdd, Nat.reduceMul, Nat.reduceLeDiff, Nat.reduceSub, Nat.reduceLT, Int.reduceToNat, Int.reduceLT, Int.reduceLE, reduceCtorEq]))
        simp only [List.nil_append, List.all_cons, List.all_nil, Bool.and_true] at ha
        exact ⟨.one c', by rw [e2, ha], fun h => (by rw [e2, ha] at h; cases h), fun _ => ⟨n1 - 1, by omega, by rw [e1, d, f]; exact hO3⟩⟩
    · rw [if_neg (by decide), if_pos rfl] at hs
      rw [hra]
      have hin' := inP_iff.1 (show inP ⟨u.x, u.y⟩ = true from ip)
      have w1 : IntKind.i64.wrap (u.x - h) = u.x - h := wr_eq (by omega) (by omega)
      have w2 : IntKind.i64.wrap (u.x + h) = u.x + h := wr_eq (by omega) (by omega)
      have w3 : IntKind.i64.wrap (u.y - h) = u.y - h := wr_eq (by omega) (by omega)
      have w4 : IntKind.i64.wrap (u.y + h) = u.y + h := wr_eq (by omega) (by omega)
      try simp only [r18_0, r18_1, r18_2, r18_3, r18_4, r18_5, r18_6, r18_7, r18_8, r18_9, r18_10, r18_12, r18_13, r18_14, r18_15, r18_16, r18_11, r18_17, r18_18, r18_20, r18_21, r18_19, r18_22, r18_23, r18_24, r18_25, r18_26, r18_27, r18_29, r18_30, r18_28, r18_31, c18, F18, l18_0, l18_1, l18_2, lenO, c1, c2, c3, hrd, w1, w2, w3, w4, Int.toNat_zero, Int.reduceToNat, Nat.zero_mul, Nat.add_zero, go_sem, Int.reduceTMod, Int.reduceTDiv, Int.reduceDiv, Int.reduceMod, Int.reduceAdd, Int.reduceSub, Int.reduceMul, Int.reduceNeg, Int.reducePow, Int.reduceEq, ↓reduceIte, Nat.reduceEqDiff, Nat.reduceAdd, Nat.reduceMul, Nat.reduceLeDiff, Nat.reduceSub, Nat.reduceLT, Int.reduceToNat, Int.reduceLT, Int.reduceLE, reduceCtorEq]
      repeat' ((first | refine FK_split (fun h_ => ?_) (fun h_ => ?_) | refine GK_split (fun h_ => ?_) (fun h_ => ?_) | refine ite_both (fun h_ => ?_) (fun h_ => ?_)) <;> (try simp only [decide_eq_true_eq, decide_eq_false_iff_not, Bool.not_true, Bool.not_false, Bool.not_eq_true', Bool.not_eq_false', Bool.not_eq_eq_eq_not, Decidable.not_not] at h_) <;> (try simp only [r18_0, r18_1, r18_2, r18_3, r18_4, r18_5, r18_6, r18_7, r18_8, r18_9, r18_10, r18_12, r18_13, r18_14, r18_15, r18_16, r18_11, r18_17, r18_18, r18_20, r18_21, r18_19, r18_22, r18_23, r18_24, r18_25, r18_26, r18_27, r18_29, r18_30, r18_28, r18_31, c18, F18, l18_0, l18_1, l18_2, lenO, c1, c2, c3, hrd, w1, w2, w3, w4, Int.toNat_zero, Int.reduceToNat, Nat.zero_mul, Nat.add_zero, h_, go_sem, Int.reduceTMod, Int.reduceTDiv, Int.reduceDiv, Int.reduceMod, Int.reduceAdd, Int.reduceSub, Int.reduceMul, Int.reduceNeg, Int.reducePow, Int.reduceEq, ↓reduceIte, Nat.reduceEqDiff, Nat.reduceAdd, Nat.reduceMul, Nat.reduceLeDiff, Nat.reduceSub, Nat.reduceLT, Int.reduceToNat, Int.reduceLT, Int.reduceLE, reduceCtorEq]))
      refine row_push (p := n1 - 1) (ls := []) (l := sqP u h) OPs.nil (by omega) (Or.inr ⟨n1 + 1, 0, some 4, rfl, by omega, ?_⟩) (fun id hid => ?_) (by decide) ?_
      · show rd _ (n1 + 1) 0 8 = _
        simp only [sqP, Pt.cs, List.flatMap_cons, List.flatMap_nil, go_sem, Int.reduceTMod, Int.reduceTDiv, Int.reduceDiv, Int.reduceMod, Int.reduceAdd, Int.reduceSub, Int.reduceMul, Int.reduceNeg, Int.reducePow, Int.reduceEq, ↓reduceIte, Nat.reduceEqDiff, Nat.reduceAdd, Nat.reduceMul, Nat.reduceLeDiff, Nat.reduceSub, Nat.reduceLT, Int.reduceToNat, Int.reduceLT, Int.reduceLE, reduceCtorEq]
      · simp only [sid, Option.some.injEq] at hid
        exact ⟨by omega, fun e => by cases e⟩
      intro c' m' hO3 hf
      try simp only [r18_0, r18_1, r18_2, r18_3, r18_4, r18_5, r18_6, r18_7, r18_8, r18_9, r18_10, r18_12, r18_13, r18_14, r18_15, r18_16, r18_11, r18_17, r18_18, r18_20, r18_21, r18_19, r18_22, r18_23, r18_24, r18_25, r18_26, r18_27, r18_29, r18_30, r18_28, r18_31, c18, F18, l18_0, l18_1, l18_2, c1, c2, lenO, go_sem, Int.reduceTMod, Int.reduceTDiv, Int.reduceDiv, Int.reduceMod, Int.reduceAdd, Int.reduceSub, Int.reduceMul, Int.reduceNeg, Int.reducePow, Int.reduceEq, ↓reduceIte, Nat.reduceEqDiff, Nat.reduceAdd, Nat.reduceMul, Nat.reduceLeDiff, Nat.reduceSub, Nat.reduceLT, Int.reduceToNat, Int.reduceLT, Int.reduceLE, reduceCtorEq]
      repeat' ((first | refine FK_split (fun h_ => ?_) (fun h_ => ?_) | refine GK_split (fun h_ => ?_) (fun h_ => ?_) | refine ite_both (fun h_ => ?_) (fun h_ => ?_)) <;> (try simp only [decide_eq_true_eq, decide_eq_false_iff_not, Bool.not_true, Bool.not_false, Bool.not_eq_true', Bool.not_eq_false', Bool.not_eq_eq_eq_not, Decidable.not_not] at h_) <;> (try simp only [r18_0, r18_1, r18_2, r18_3, r18_4, r18_5, r18_6, r18_7, r18_8, r18_9, r18_10, r18_12, r18_13, r18_14, r18_15, r18_16, r18_11, r18_17, r18_18, r18_20, r18_21, r18_19, r18_22, r18_23, r18_24, r18_25, r18_26, r18_27, r18_29, r18_30, r18_28, r18_31, c18, F18, l18_0, l18_1, l18_2, c1, c2, lenO, h_, go_sem, Int.reduceTMod, Int.reduceTDiv, Int.reduceDiv, Int.reduceMod, Int.reduceAdd, Int.reduceSub, Int.reduceMul, Int.reduceNeg, Int.reducePow, Int.reduceEq, ↓reduceIte, Nat.reduceEqDiff, Nat.reduceAdd, Nat.reduceMul, Nat.reduceLeDiff, Nat.reduceSub, Nat.reduceLT, Int.reduceToNat, Int.reduceLT, Int.reduceLE, reduceCtorEq]))
      rw [XK_loop]
      try simp only [r18_0, r18_1, r18_2, r18_3, r18_4, r18_5, r18_6, r18_7, r18_8, r18_9, r18_10, r18_12, r18_13, r18_14, r18_15, r18_16, r18_11, r18_17, r18_18, r18_20, r18_21, r18_19, r18_22, r18_23, r18_24, r18_25, r18_26, r18_27, r18_29, r18_30, r18_28, r18_31, c18, F18, l18_0, l18_1, l18_2, c1, c2, go_sem, Int.reduceTMod, Int.reduceTDiv, Int.reduceDiv, Int.reduceMod, Int.reduceAdd, Int.reduceSub, Int.reduceMul, Int.reduceNeg, Int.reducePow, Int.reduceEq, ↓reduceIte, Nat.reduceEqDiff, Nat.reduceAdd, Nat.reduceMul, Nat.reduceLeDiff, Nat.reduceSub, Nat.reduceLT, Int.reduceToNat, Int.reduceLT, Int.reduceLE, reduceCtorEq]
      repeat' ((first | refine FK_split (fun h_ => ?_) (fun h_ => ?_) | refine GK_split (fun h_ => ?_) (fun h_ => ?_) | refine ite_both (fun h_ => ?_) (fun h_ => ?_)) <;> (try simp only [decide_eq_true_eq, decide_eq_false_iff_not, Bool.not_true, Bool.not_false, Bool.not_eq_true', Bool.not_eq_false', Bool.not_eq_eq_eq_not, Decidable.not_not] at h_) <;> (try simp only [r18_0, r18_1, r18_2, r18_3, r18_4, r18_5, r18_6, r18_7, r18_8, r18_9, r18_10, r18_12, r18_13, r18_14, r18_15, r18_16, r18_11, r18_17, r18_18, r18_20, r18_21, r18_19, r18_22, r18_23, r18_24, r18_25, r18_26, r18_27, r18_29, r18_30, r18_28, r18_31, c18, F18, l18_0, l18_1, l18_2, c1, c2, h_, go_sem, Int.reduceTMod, Int.reduceTDiv, Int.reduceDiv, Int.reduceMod, Int.reduceAdd, Int.reduceSub, Int.reduceMul, Int.reduceNeg, Int.reducePow, Int.reduceEq, ↓reduceIte, Nat.reduceEqDiff, Nat.reduceAdd, Nat.reduceMul, Nat.reduceLeDiff, Nat.reduceSub, Nat.reduceLT, Int.reduceToNat, Int.reduceLT, Int.reduceLE, reduceCtorEq]))
      rw [XK_loop]
      try simp only [r18_0, r18_1, r18_2, r18_3, r18_4, r18_5, r18_6, r18_7, r18_8, r18_9, r18_10, r18_12, r18_13, r18_14, r18_15, r18_16, r18_11, r18_17, r18_18, r18_20, r18_21, r18_19, r18_22, r18_23, r18_24, r18_25, r18_26, r18_27, r18_29, r18_30, r18_28, r18_31, c18, F18, l18_0, l18_1, l18_2, c1, c2, go_sem, Int.reduceTMod, Int.reduceTDiv, Int.reduceDiv, Int.reduceMod, Int.reduceAdd, Int.reduceSub, Int.reduceMul, Int.reduceNeg, Int.reducePow, Int.reduceEq, ↓reduceIte, Nat.reduceEqDiff, Nat.reduceAdd, Nat.reduceMul, Nat.reduceLeDiff, Nat.reduceSub, Nat.reduceLT, Int.reduceToNat, Int.reduceLT, Int.reduceLE, reduceCtorEq]
      repeat' ((first | refine FK_split (fun h_ => ?_) (fun h_ => ?_) | refine GK_split (fun h_ => ?_) (fun h_ => ?_) | refine ite_both (fun h_ => ?_) (fun h_ => ?_)) <;> (try simp only [decide_eq_true_eq, decide_eq_false_iff_not, Bool.not_true, Bool.not_false, Bool.not_eq_true', Bool.not_eq_false', Bool.not_eq_eq_eq_not, Decidable.not_not] at h_) <;> (try simp only [r18_0, r18_1, r18_2, r18_3, r18_4, r18_5, r18_6, r18_7, r18_8, r18_9, r18_10, r18_12, r18_13, r18_14, r18_15, r18_16, r18_11, r18_17, r18_18, r18_20, r18_21, r18_19, r18_22, r18_23, r18_24, r18_25, r18_26, r18_27, r18_29, r18_30, r18_28, r18_31, c18, F18, l18_0, l18_1, l18_2, c1, c2, h_, go_sem, Int.reduceTMod, Int.reduceTDiv, Int.reduceDiv, Int.reduceMod, Int.reduceAdd, Int.reduceSub, Int.reduceMul, Int.reduceNeg, Int.reducePow, Int.reduceEq, ↓reduceIte, Nat.reduceEqDiff, Nat.reduceAdd, Nat.reduceMul, Nat.reduceLeDiff, Nat.reduceSub, Nat.reduceLT, Int.reduceToNat, Int.reduceLT, Int.reduceLE, reduceCtorEq]))
      have hr1' : strokeI q c h 2 = [sqI h u] := hs
      have e1 : (strokeI q c h 2).map (·.2) = [] ++ [sqP u h] := by rw [hr1']; rfl
      have e2 : (strokeI q c h 2).all (·.1) = (sqP u h).all inP := by rw [hr1']; simp [sqI]
      refine rroom_loop hO3 (by simp) (fun l hl => ?_) ?_ ?_ (fun ha s a b d f => ?_) (fun ha s d f g => ?_)
      · simp only [List.nil_append, List.mem_singleton] at hl
        rw [hl]
        show 4 < 4294967296
        decide
      · simp only [go_sem, Int.reduceTMod, Int.reduceTDiv, Int.reduceDiv, Int.reduceMod, Int.reduceAdd, Int.reduceSub, Int.reduceMul, Int.reduceNeg, Int.reducePow, Int.reduceEq, ↓reduceIte, Nat.reduceEqDiff, Nat.reduceAdd, Nat.reduceMul, Nat.reduceLeDiff, Nat.reduceSub, Nat.reduceLT, Int.reduceToNat, Int.reduceLT, Int.reduceLE, reduceCtorEq]
      · simp only [go_sem, Int.reduceTMod, Int.reduceTDiv, Int.reduceDiv, Int.reduceMod, Int.reduceAdd, Int.reduceSub, Int.reduceMul, Int.reduceNeg, Int.reducePow, Int.reduceEq, ↓reduceIte, Nat.reduceEqDiff, Nat.reduceAdd, Nat.reduceMul, Nat.reduceLeDiff, Nat.reduceSub, Nat.reduceLT, Int.reduceToNat, Int.reduceLT, Int.reduceLE, reduceCtorEq]
      · skip
        try simp only [a, b, go_sem, Int.reduceTMod, Int.reduceTDiv, Int.reduceDiv, Int.reduceMod, Int.reduceAdd, Int.reduceSub, Int.reduceMul, Int.reduceNeg, Int.reducePow, Int.reduceEq, ↓reduceIte, Nat.reduceEqDiff, Nat.reduceAdd, Nat.reduceMul, Nat.reduceLeDiff, Nat.reduceSub, Nat.reduceLT, Int.reduceToNat, Int.reduceLT, Int.reduceLE, reduceCtorEq]
        repeat' ((first | refine FK_split (fun h_ => ?_) (fun h_ => ?_) | refine GK_split (fun h_ => ?_) (fun h_ => ?_) | refine ite_both (fun h_ => ?_) (fun h_ => ?_)) <;> (try simp only [decide_eq_true_eq, decide_eq_false_iff_not, Bool.not_true, Bool.not_false, Bool.not_eq_true', Bool.not_eq_false', Bool.not_eq_eq_eq_not, Decidable.not_not] at h_) <;> (try simp only [a, b, h_, go_sem, Int.reduceTMod, Int.reduceTDiv, Int.reduceDiv, Int.reduceMod, Int.reduceAdd, Int.reduceSub, Int.reduceMul, Int.reduceNeg, Int.reducePow, Int.reduceEq, ↓reduceIte, Nat.reduceEqDiff, Nat.reduceAdd, Nat.reduceMul, Nat.reduceLeDiff, Nat.reduceSub, Nat.reduceLT, Int.reduceToNat, Int.reduceLT, Int.reduceLE, reduceCtorEq]))
        refine ⟨rnil, ?_, fun _ => rfl, fun h => ?_⟩
        · rw [e2]
          simp only [List.nil_append, List.all_cons, List.all_nil, Bool.and_true] at ha
          rw [ha]
        · rw [e2] at h
          simp only [List.nil_append, List.all_cons, List.all_nil, Bool.and_true] at ha
          rw [ha] at h; cases h
      · skip
        try simp only [r18_0, r18_1, r18_2, r18_3, r18_4, r18_5, r18_6, r18_7, r18_8, r18_9, r18_10, r18_12, r18_13, r18_14, r18_15, r18_16, r18_11, r18_17, r18_18, r18_20, r18_21, r18_19, r18_22, r18_23, r18_24, r18_25, r18_26, r18_27, r18_29, r18_30, r18_28, r18_31, c18, F18, g, go_sem, Int.reduceTMod, Int.reduceTDiv, Int.reduceDiv, Int.reduceMod, Int.reduceAdd, Int.reduceSub, Int.reduceMul, Int.reduceNeg, Int.reducePow, Int.reduceEq, ↓reduceIte, Nat.reduceEqDiff, Nat.reduceAdd, Nat.reduceMul, Nat.reduceLeDiff, Nat.reduceSub, Nat.reduceLT, Int.reduceToNat, Int.reduceLT, Int.reduceLE, reduceCtorEq]
        repeat' ((first | refine FK_split (fun h_ => ?_) (fun h_ => ?_) | refine GK_split (fun h_ => ?_) (fun h_ => ?_) | refine ite_both (fun h_ => ?_) (fun h_ => ?_)) <;> (try simp only [decide_eq_true_eq, decide_eq_false_iff_not, Bool.not_true, Bool.not_false, Bool.not_eq_true', Bool.not_eq_false', Bool.not_eq_eq_eq_not, Decidable.not_not] at h_) <;> (try simp only [r18_0, r18_1, r18_2, r18_3, r18_4, r18_5, r18_6, r18_7, r18_8, r18_9, r18_10, r18_12, r18_13, r18_14, r18_15, r18_16, r18_11, r18_17, r18_18, r18_20, r18_21, r18_19, r18_22, r18_23, r18_24, r18_25, r18_26, r18_27, r18_29, r18_30, r18_28, r18_31, c18, F18, g, h_, go_sem, Int.reduceTMod, Int.reduceTDiv, Int.reduceDiv, Int.reduceMod, Int.reduceAdd, Int.reduceSub, Int.reduceMul, Int.reduceNeg, Int.reducePow, Int.reduceEq, ↓reduceIte, Nat.reduceEqDiff, Nat.reduceAdd, Nat.reduceMul, Nat.reduceLeDiff, Nat.reduceSub, Nat.reduceLT, Int.reduceToNat, Int.reduceLT, Int.reduceLE, reduceCtorEq]))
        simp only [List.nil_append, List.all_cons, List.all_nil, Bool.and_true] at ha
        exact ⟨.one c', by rw [e2, ha], fun h => (by rw [e2, ha] at h; cases h), fun _ => ⟨n1 - 1, by omega, by rw [e1, d, f]; exact hO3⟩⟩
  · have c1 : ((q.length : Int) = 1) = False := eq_false (by omega)
    have c2 : (1 < (q.length : Int)) = True := eq_true (by omega)
    have hal2 : alongI h q c = barsAll h q c ++ discsTo h q c q.length := rfl
    have hs : strokeI q c h cap = barsAll h q c ++ discsTo h q c q.length ++ (if c = true then [] else if cap = 1 then at1 (fun p => [discI h p]) q 0 ++ at1 (fun p => [discI h p]) q (q.length - 1) else if cap = 2 then at2 (firstI h) q 0 1 ++ at2 (lastI h) q (q.length - 2) (q.length - 1) else []) := by
      unfold strokeI; rw [if_neg (by omega), if_pos z, hal2]
    have hbel : ∀ id, sid r1 = some id → id ≤ n1 - 1 := fun id hid => by have := hr2.lt hid; omega
    have hbad : (barsAll h q c).all (·.1) = false → (strokeI q c h cap).all (·.1) = false := fun hb => by
      rw [hs, List.all_append, List.all_append, hb, Bool.false_and, Bool.false_and]
    have bad : ∀ m' n', (strokeI q c h cap).all (·.1) = false → RStrokeQ (strokeI q c h cap) n (.tup [rnil, RB false]) m' n' := fun m' n' hb => ⟨rnil, by rw [hb], fun _ => rfl, fun h => (by rw [hb] at h; cases h)⟩
    have hbl := barsTo_len h q (q.length - 1)
    have hbl2 := barAt_len h q (q.length - 1) 0
    have hbl3 : (barsAll h q c).length ≤ q.length + 1 := by
      unfold barsAll
      rw [List.length_append]
      split <;> (try simp only [List.length_nil]) <;> omega
    try simp only [r18_0, r18_1, r18_2, r18_3, r18_4, r18_5, r18_6, r18_7, r18_8, r18_9, r18_10, r18_12, r18_13, r18_14, r18_15, r18_16, r18_11, r18_17, r18_18, r18_20, r18_21, r18_19, r18_22, r18_23, r18_24, r18_25, r18_26, r18_27, r18_29, r18_30, r18_28, r18_31, c18, F18, hlen, c1, c2, go_sem, Int.reduceTMod, Int.reduceTDiv, Int.reduceDiv, Int.reduceMod, Int.reduceAdd, Int.reduceSub, Int.reduceMul, Int.reduceNeg, Int.reducePow, Int.reduceEq, ↓reduceIte, Nat.reduceEqDiff, Nat.reduceAdd, Nat.reduceMul, Nat.reduceLeDiff, Nat.reduceSub, Nat.reduceLT, Int.reduceToNat, Int.reduceLT, Int.reduceLE, reduceCtorEq]
    repeat' ((first | refine FK_split (fun h_ => ?_) (fun h_ => ?_) | refine GK_split (fun h_ => ?_) (fun h_ => ?_) | refine ite_both (fun h_ => ?_) (fun h_ => ?_)) <;> (try simp only [decide_eq_true_eq, decide_eq_false_iff_not, Bool.not_true, Bool.not_false, Bool.not_eq_true', Bool.not_eq_false', Bool.not_eq_eq_eq_not, Decidable.not_not] at h_) <;> (try simp only [r18_0, r18_1, r18_2, r18_3, r18_4, r18_5, r18_6, r18_7, r18_8, r18_9, r18_10, r18_12, r18_13, r18_14, r18_15, r18_16, r18_11, r18_17, r18_18, r18_20, r18_21, r18_19, r18_22, r18_23, r18_24, r18_25, r18_26, r18_27, r18_29, r18_30, r18_28, r18_31, c18, F18, hlen, c1, c2, h_, go_sem, Int.reduceTMod, Int.reduceTDiv, Int.reduceDiv, Int.reduceMod, Int.reduceAdd, Int.reduceSub, Int.reduceMul, Int.reduceNeg, Int.reducePow, Int.reduceEq, ↓reduceIte, Nat.reduceEqDiff, Nat.reduceAdd, Nat.reduceMul, Nat.reduceLeDiff, Nat.reduceSub, Nat.reduceLT, Int.reduceToNat, Int.reduceLT, Int.reduceLE, reduceCtorEq]))
    refine rbars_loop (p := n1 - 1) (c := c) (h := h) (cp := cap) (by omega) hr2 hbel h1 h2 hal hadj (fun hc => hends hc z) z (by omega) ?_ ?_ ?_ ?_ ?_ ?_ ?_ (fun hb s a b d => ?_) (fun s sn sm s0 s1 s2 s3 s11 sO sR sL => ?_)
    · simp only [go_sem, Int.reduceTMod, Int.reduceTDiv, Int.reduceDiv, Int.reduceMod, Int.reduceAdd, Int.reduceSub, Int.reduceMul, Int.reduceNeg, Int.reducePow, Int.reduceEq, ↓reduceIte, Nat.reduceEqDiff, Nat.reduceAdd, Nat.reduceMul, Nat.reduceLeDiff, Nat.reduceSub, Nat.reduceLT, Int.reduceToNat, Int.reduceLT, Int.reduceLE, reduceCtorEq]
    · simp only [go_sem, Int.reduceTMod, Int.reduceTDiv, Int.reduceDiv, Int.reduceMod, Int.reduceAdd, Int.reduceSub, Int.reduceMul, Int.reduceNeg, Int.reducePow, Int.reduceEq, ↓reduceIte, Nat.reduceEqDiff, Nat.reduceAdd, Nat.reduceMul, Nat.reduceLeDiff, Nat.reduceSub, Nat.reduceLT, Int.reduceToNat, Int.reduceLT, Int.reduceLE, reduceCtorEq]
    · simp only [go_sem, Int.reduceTMod, Int.reduceTDiv, Int.reduceDiv, Int.reduceMod, Int.reduceAdd, Int.reduceSub, Int.reduceMul, Int.reduceNeg, Int.reducePow, Int.reduceEq, ↓reduceIte, Nat.reduceEqDiff, Nat.reduceAdd, Nat.reduceMul, Nat.reduceLeDiff, Nat.reduceSub, Nat.reduceLT, Int.reduceToNat, Int.reduceLT, Int.reduceLE, reduceCtorEq]
    · simp only [go_sem, Int.reduceTMod, Int.reduceTDiv, Int.reduceDiv, Int.reduceMod, Int.reduceAdd, Int.reduceSub, Int.reduceMul, Int.reduceNeg, Int.reducePow, Int.reduceEq, ↓reduceIte, Nat.reduceEqDiff, Nat.reduceAdd, Nat.reduceMul, Nat.reduceLeDiff, Nat.reduceSub, Nat.reduceLT, Int.reduceToNat, Int.reduceLT, Int.reduceLE, reduceCtorEq]
    · simp only [go_sem, Int.reduceTMod, Int.reduceTDiv, Int.reduceDiv, Int.reduceMod, Int.reduceAdd, Int.reduceSub, Int.reduceMul, Int.reduceNeg, Int.reducePow, Int.reduceEq, ↓reduceIte, Nat.reduceEqDiff, Nat.reduceAdd, Nat.reduceMul, Nat.reduceLeDiff, Nat.reduceSub, Nat.reduceLT, Int.reduceToNat, Int.reduceLT, Int.reduceLE, reduceCtorEq]
    · simp only [go_sem, Int.reduceTMod, Int.reduceTDiv, Int.reduceDiv, Int.reduceMod, Int.reduceAdd, Int.reduceSub, Int.reduceMul, Int.reduceNeg, Int.reducePow, Int.reduceEq, ↓reduceIte, Nat.reduceEqDiff, Nat.reduceAdd, Nat.reduceMul, Nat.reduceLeDiff, Nat.reduceSub, Nat.reduceLT, Int.reduceToNat, Int.reduceLT, Int.reduceLE, reduceCtorEq]
    · simp only [go_sem, Int.reduceTMod, Int.reduceTDiv, Int.reduceDiv, Int.reduceMod, Int.reduceAdd, Int.reduceSub, Int.reduceMul, Int.reduceNeg, Int.reducePow, Int.reduceEq, ↓reduceIte, Nat.reduceEqDiff, Nat.reduceAdd, Nat.reduceMul, Nat.reduceLeDiff, Nat.reduceSub, Nat.reduceLT, Int.reduceToNat, Int.reduceLT, Int.reduceLE, reduceCtorEq]
    · skip
      try simp only [a, b, go_sem, Int.reduceTMod, Int.reduceTDiv, Int.reduceDiv, Int.reduceMod, Int.reduceAdd, Int.reduceSub, Int.reduceMul, Int.reduceNeg, Int.reducePow, Int.reduceEq, ↓reduceIte, Nat.reduceEqDiff, Nat.reduceAdd, Nat.reduceMul, Nat.reduceLeDiff, Nat.reduceSub, Nat.reduceLT, Int.reduceToNat, Int.reduceLT, Int.reduceLE, reduceCtorEq]
      repeat' ((first | refine FK_split (fun h_ => ?_) (fun h_ => ?_) | refine GK_split (fun h_ => ?_) (fun h_ => ?_) | refine ite_both (fun h_ => ?_) (fun h_ => ?_)) <;> (try simp only [decide_eq_true_eq, decide_eq_false_iff_not, Bool.not_true, Bool.not_false, Bool.not_eq_true', Bool.not_eq_false', Bool.not_eq_eq_eq_not, Decidable.not_not] at h_) <;> (try simp only [a, b, h_, go_sem, Int.reduceTMod, Int.reduceTDiv, Int.reduceDiv, Int.reduceMod, Int.reduceAdd, Int.reduceSub, Int.reduceMul, Int.reduceNeg, Int.reducePow, Int.reduceEq, ↓reduceIte, Nat.reduceEqDiff, Nat.reduceAdd, Nat.reduceMul, Nat.reduceLeDiff, Nat.reduceSub, Nat.reduceLT, Int.reduceToNat, Int.reduceLT, Int.reduceLE, reduceCtorEq]))
      exact bad _ _ (hbad hb)
    · obtain ⟨e, M2, N2⟩ := s
      simp only at sn sm s0 s1 s2 s3 s11 sO
      try simp only [r18_0, r18_1, r18_2, r18_3, r18_4, r18_5, r18_6, r18_7, r18_8, r18_9, r18_10, r18_12, r18_13, r18_14, r18_15, r18_16, r18_11, r18_17, r18_18, r18_20, r18_21, r18_19, r18_22, r18_23, r18_24, r18_25, r18_26, r18_27, r18_29, r18_30, r18_28, r18_31, c18, F18, go_sem, Int.reduceTMod, Int.reduceTDiv, Int.reduceDiv, Int.reduceMod, Int.reduceAdd, Int.reduceSub, Int.reduceMul, Int.reduceNeg, Int.reducePow, Int.reduceEq, ↓reduceIte, Nat.reduceEqDiff, Nat.reduceAdd, Nat.reduceMul, Nat.reduceLeDiff, Nat.reduceSub, Nat.reduceLT, Int.reduceToNat, Int.reduceLT, Int.reduceLE, reduceCtorEq]
      repeat' ((first | refine FK_split (fun h_ => ?_) (fun h_ => ?_) | refine GK_split (fun h_ => ?_) (fun h_ => ?_) | refine ite_both (fun h_ => ?_) (fun h_ => ?_)) <;> (try simp only [decide_eq_true_eq, decide_eq_false_iff_not, Bool.not_true, Bool.not_false, Bool.not_eq_true', Bool.not_eq_false', Bool.not_eq_eq_eq_not, Decidable.not_not] at h_) <;> (try simp only [r18_0, r18_1, r18_2, r18_3, r18_4, r18_5, r18_6, r18_7, r18_8, r18_9, r18_10, r18_12, r18_13, r18_14, r18_15, r18_16, r18_11, r18_17, r18_18, r18_20, r18_21, r18_19, r18_22, r18_23, r18_24, r18_25, r18_26, r18_27, r18_29, r18_30, r18_28, r18_31, c18, F18, h_, go_sem, Int.reduceTMod, Int.reduceTDiv, Int.reduceDiv, Int.reduceMod, Int.reduceAdd, Int.reduceSub, Int.reduceMul, Int.reduceNeg, Int.reducePow, Int.reduceEq, ↓reduceIte, Nat.reduceEqDiff, Nat.reduceAdd, Nat.reduceMul, Nat.reduceLeDiff, Nat.reduceSub, Nat.reduceLT, Int.reduceToNat, Int.reduceLT, Int.reduceLE, reduceCtorEq]))
      refine rdiscs_loop (p := n1 - 1) (c := c) (h := h) (cp := cap) sO (by omega) (hr2.keep' sn (fun id hid => sm id (hbel id hid))) hbel h1 h2 hal z (by omega) (by rw [List.length_map]; omega) ?_ ?_ ?_ ?_ ?_ ?_ ?_ (fun s tn tm t0 t1 t2 t3 t11 tO => ?_)
      · simp only [s0, go_sem, Int.reduceTMod, Int.reduceTDiv, Int.reduceDiv, Int.reduceMod, Int.reduceAdd, Int.reduceSub, Int.reduceMul, Int.reduceNeg, Int.reducePow, Int.reduceEq, ↓reduceIte, Nat.reduceEqDiff, Nat.reduceAdd, Nat.reduceMul, Nat.reduceLeDiff, Nat.reduceSub, Nat.reduceLT, Int.reduceToNat, Int.reduceLT, Int.reduceLE, reduceCtorEq]
      · simp only [s1, go_sem, Int.reduceTMod, Int.reduceTDiv, Int.reduceDiv, Int.reduceMod, Int.reduceAdd, Int.reduceSub, Int.reduceMul, Int.reduceNeg, Int.reducePow, Int.reduceEq, ↓reduceIte, Nat.reduceEqDiff, Nat.reduceAdd, Nat.reduceMul, Nat.reduceLeDiff, Nat.reduceSub, Nat.reduceLT, Int.reduceToNat, Int.reduceLT, Int.reduceLE, reduceCtorEq]
      · simp only [s2, go_sem, Int.reduceTMod, Int.reduceTDiv, Int.reduceDiv, Int.reduceMod, Int.reduceAdd, Int.reduceSub, Int.reduceMul, Int.reduceNeg, Int.reducePow, Int.reduceEq, ↓reduceIte, Nat.reduceEqDiff, Nat.reduceAdd, Nat.reduceMul, Nat.reduceLeDiff, Nat.reduceSub, Nat.reduceLT, Int.reduceToNat, Int.reduceLT, Int.reduceLE, reduceCtorEq]
      · simp only [s3, go_sem, Int.reduceTMod, Int.reduceTDiv, Int.reduceDiv, Int.reduceMod, Int.reduceAdd, Int.reduceSub, Int.reduceMul, Int.reduceNeg, Int.reducePow, Int.reduceEq, ↓reduceIte, Nat.reduceEqDiff, Nat.reduceAdd, Nat.reduceMul, Nat.reduceLeDiff, Nat.reduceSub, Nat.reduceLT, Int.reduceToNat, Int.reduceLT, Int.reduceLE, reduceCtorEq]
      · simp only [go_sem, Int.reduceTMod, Int.reduceTDiv, Int.reduceDiv, Int.reduceMod, Int.reduceAdd, Int.reduceSub, Int.reduceMul, Int.reduceNeg, Int.reducePow, Int.reduceEq, ↓reduceIte, Nat.reduceEqDiff, Nat.reduceAdd, Nat.reduceMul, Nat.reduceLeDiff, Nat.reduceSub, Nat.reduceLT, Int.reduceToNat, Int.reduceLT, Int.reduceLE, reduceCtorEq]
      · simp only [s11, go_sem, Int.reduceTMod, Int.reduceTDiv, Int.reduceDiv, Int.reduceMod, Int.reduceAdd, Int.reduceSub, Int.reduceMul, Int.reduceNeg, Int.reducePow, Int.reduceEq, ↓reduceIte, Nat.reduceEqDiff, Nat.reduceAdd, Nat.reduceMul, Nat.reduceLeDiff, Nat.reduceSub, Nat.reduceLT, Int.reduceToNat, Int.reduceLT, Int.reduceLE, reduceCtorEq]
      · simp only [go_sem, Int.reduceTMod, Int.reduceTDiv, Int.reduceDiv, Int.reduceMod, Int.reduceAdd, Int.reduceSub, Int.reduceMul, Int.reduceNeg, Int.reducePow, Int.reduceEq, ↓reduceIte, Nat.reduceEqDiff, Nat.reduceAdd, Nat.reduceMul, Nat.reduceLeDiff, Nat.reduceSub, Nat.reduceLT, Int.reduceToNat, Int.reduceLT, Int.reduceLE, reduceCtorEq]
      · obtain ⟨e', M3, N3⟩ := s
        simp only at tn tm t0 t1 t2 t3 t11 tO
        have okA : ∀ x ∈ alongI h q c, x.1 = x.2.all inP := fun x hx => by
          rw [hal2, List.mem_append] at hx
          rcases hx with hx | hx
          · exact sR x hx
          · exact discs_okR h q c _ x hx
        rw [← List.map_append, ← hal2] at tO
        have tail : ∀ (its : List (Bool × List Pt)), its = strokeI q c h cap → (∀ x ∈ its, x.1 = x.2.all inP) → ∀ (e : Nat → Reg) (M : Mem) (N : Nat) (K : Kt), OPs (n1 - 1) (n1 - 1) (n1 - 1) M N (e 10) (its.map (·.2)) → e 16 = RI 0 → (∀ l ∈ its.map (·.2), l.length < 4294967296) → its.length < 4294967296 →
            ((strokeI q c h cap).all (·.1) = false → ∀ s, s.e 8 = rnil → s.e 9 = RB false → KR TA K s) → ((strokeI q c h cap).all (·.1) = true → ∀ s, OPs (n1 - 1) (n1 - 1) (n1 - 1) s.m s.n (s.e 10) ((strokeI q c h cap).map (·.2)) → KX TA K 4 s) → XK TA (.loop l18_2) ⟨e, M, N⟩ K := fun its hi ho e M N K hO h16 hsz hln hf ht => by
          have hal := all_okR ho
          refine rroom_loop hO (by rw [List.length_map]; exact hln) hsz rfl h16 (fun ha s a b _ _ => hf (by rw [← hi, hal]; exact ha) s a b) (fun ha s a b d => ht (by rw [← hi, hal]; exact ha) s ?_)
          rw [a, b, d, ← hi]
          exact hO
        have hlA : (alongI h q c).length < 100000000 := by
          have := discsTo_len h q c q.length
          rw [hal2, List.length_append]; omega
        have good : ∀ x m' n', (strokeI q c h cap).all (·.1) = true → OPs (n1 - 1) (n1 - 1) (n1 - 1) m' n' x ((strokeI q c h cap).map (·.2)) → RStrokeQ (strokeI q c h cap) n (.tup [x, RB true]) m' n' := fun x m' n' ha hO => ⟨x, by rw [ha], fun h => (by rw [ha] at h; cases h), fun _ => ⟨n1 - 1, by omega, hO⟩⟩
        cases c
        · simp only [Bool.false_eq_true, if_false] at hs
          rw [← hal2] at hs
          rcases (show cap = 0 ∨ cap = 1 ∨ cap = 2 by omega) with rfl | rfl | rfl
          · rw [if_neg (by decide), if_neg (by decide), List.append_nil] at hs
            have hs2 := hs.symm
            have okB := okA
            have l16 := along_l16 h q false
            try simp only [r18_0, r18_1, r18_2, r18_3, r18_4, r18_5, r18_6, r18_7, r18_8, r18_9, r18_10, r18_12, r18_13, r18_14, r18_15, r18_16, r18_11, r18_17, r18_18, r18_20, r18_21, r18_19, r18_22, r18_23, r18_24, r18_25, r18_26, r18_27, r18_29, r18_30, r18_28, r18_31, c18, F18, t1, t3, t11, c2, go_sem, Int.reduceTMod, Int.reduceTDiv, Int.reduceDiv, Int.reduceMod, Int.reduceAdd, Int.reduceSub, Int.reduceMul, Int.reduceNeg, Int.reducePow, Int.reduceEq, ↓reduceIte, Nat.reduceEqDiff, Nat.reduceAdd, Nat.reduceMul, Nat.reduceLeDiff, Nat.reduceSub, Nat.reduceLT, Int.reduceToNat, Int.reduceLT, Int.reduceLE, reduceCtorEq]
            repeat' ((first | refine FK_split (fun h_ => ?_) (fun h_ => ?_) | refine GK_split (fun h_ => ?_) (fun h_ => ?_) | refine ite_both (fun h_ => ?_) (fun h_ => ?_)) <;> (try simp only [decide_eq_true_eq, decide_eq_false_iff_not, Bool.not_true, Bool.not_false, Bool.not_eq_true', Bool.not_eq_false', Bool.not_eq_eq_eq_not, Decidable.not_not] at h_) <;> (try simp only [r18_0, r18_1, r18_2, r18_3, r18_4, r18_5, r18_6, r18_7, r18_8, r18_9, r18_10, r18_12, r18_13, r18_14, r18_15, r18_16, r18_11, r18_17, r18_18, r18_20, r18_21, r18_19, r18_22, r18_23, r18_24, r18_25, r18_26, r18_27, r18_29, r18_30, r18_28, r18_31, c18, F18, t1, t3, t11, c2, h_, go_sem, Int.reduceTMod, Int.reduceTDiv, Int.reduceDiv, Int.reduceMod, Int.reduceAdd, Int.reduceSub, Int.reduceMul, Int.reduceNeg, Int.reducePow, Int.reduceEq, ↓reduceIte, Nat.reduceEqDiff, Nat.reduceAdd, Nat.reduceMul, Nat.reduceLeDiff, Nat.reduceSub, Nat.reduceLT, Int.reduceToNat, Int.reduceLT, Int.reduceLE, reduceCtorEq]))
            refine tail _ hs2 okB _ _ _ _ (by simp only [go_sem, Int.reduceTMod, Int.reduceTDiv, Int.reduceDiv, Int.reduceMod, Int.reduceAdd, Int.reduceSub, Int.reduceMul, Int.reduceNeg, Int.reducePow, Int.reduceEq, ↓reduceIte, Nat.reduceEqDiff, Nat.reduceAdd, Nat.reduceMul, Nat.reduceLeDiff, Nat.reduceSub, Nat.reduceLT, Int.reduceToNat, Int.reduceLT, Int.reduceLE, reduceCtorEq]; exact tO) (by simp only [go_sem, Int.reduceTMod, Int.reduceTDiv, Int.reduceDiv, Int.reduceMod, Int.reduceAdd, Int.reduceSub, Int.reduceMul, Int.reduceNeg, Int.reducePow, Int.reduceEq, ↓reduceIte, Nat.reduceEqDiff, Nat.reduceAdd, Nat.reduceMul, Nat.reduceLeDiff, Nat.reduceSub, Nat.reduceLT, Int.reduceToNat, Int.reduceLT, Int.reduceLE, reduceCtorEq]) (fun l hl => ?_) (by omega) (fun hf s a b => ?_) (fun ht s hO => ?_)
            · obtain ⟨x, hx, rfl⟩ := List.mem_map.1 hl
              exact l16 x hx
            · skip
              try simp only [a, b, go_sem, Int.reduceTMod, Int.reduceTDiv, Int.reduceDiv, Int.reduceMod, Int.reduceAdd, Int.reduceSub, Int.reduceMul, Int.reduceNeg, Int.reducePow, Int.reduceEq, ↓reduceIte, Nat.reduceEqDiff, Nat.reduceAdd, Nat.reduceMul, Nat.reduceLeDiff, Nat.reduceSub, Nat.reduceLT, Int.reduceToNat, Int.reduceLT, Int.reduceLE, reduceCtorEq]
              repeat' ((first | refine FK_split (fun h_ => ?_) (fun h_ => ?_) | refine GK_split (fun h_ => ?_) (fun h_ => ?_) | refine ite_both (fun h_ => ?_) (fun h_ => ?_)) <;> (try simp only [decide_eq_true_eq, decide_eq_false_iff_not, Bool.not_true, Bool.not_false, Bool.not_eq_true', Bool.not_eq_false', Bool.not_eq_eq_eq_not, Decidable.not_not] at h_) <;> (try simp only [a, b, h_, go_sem, Int.reduceTMod, Int.reduceTDiv, Int.reduceDiv, Int.reduceMod, Int.reduceAdd, Int.reduceSub, Int.reduceMul, Int.reduceNeg, Int.reducePow, Int.reduceEq, ↓reduceIte, Nat.reduceEqDiff, Nat.reduceAdd, Nat.reduceMul, Nat.reduceLeDiff, Nat.reduceSub, Nat.reduceLT, Int.reduceToNat, Int.reduceLT, Int.reduceLE, reduceCtorEq]))
              exact bad _ _ hf
            · skip
              try simp only [r18_0, r18_1, r18_2, r18_3, r18_4, r18_5, r18_6, r18_7, r18_8, r18_9, r18_10, r18_12, r18_13, r18_14, r18_15, r18_16, r18_11, r18_17, r18_18, r18_20, r18_21, r18_19, r18_22, r18_23, r18_24, r18_25, r18_26, r18_27, r18_29, r18_30, r18_28, r18_31, c18, F18, go_sem, Int.reduceTMod, Int.reduceTDiv, Int.reduceDiv, Int.reduceMod, Int.reduceAdd, Int.reduceSub, Int.reduceMul, Int.reduceNeg, Int.reducePow, Int.reduceEq, ↓reduceIte, Nat.reduceEqDiff, Nat.reduceAdd, Nat.reduceMul, Nat.reduceLeDiff, Nat.reduceSub, Nat.reduceLT, Int.reduceToNat, Int.reduceLT, Int.reduceLE, reduceCtorEq]
              repeat' ((first | refine FK_split (fun h_ => ?_) (fun h_ => ?_) | refine GK_split (fun h_ => ?_) (fun h_ => ?_) | refine ite_both (fun h_ => ?_) (fun h_ => ?_)) <;> (try simp only [decide_eq_true_eq, decide_eq_false_iff_not, Bool.not_true, Bool.not_false, Bool.not_eq_true', Bool.not_eq_false', Bool.not_eq_eq_eq_not, Decidable.not_not] at h_) <;> (try simp only [r18_0, r18_1, r18_2, r18_3, r18_4, r18_5, r18_6, r18_7, r18_8, r18_9, r18_10, r18_12, r18_13, r18_14, r18_15, r18_16, r18_11, r18_17, r18_18, r18_20, r18_21, r18_19, r18_22, r18_23, r18_24, r18_25, r18_26, r18_27, r18_29, r18_30, r18_28, r18_31, c18, F18, h_, go_sem, Int.reduceTMod, Int.reduceTDiv, Int.reduceDiv, Int.reduceMod, Int.reduceAdd, Int.reduceSub, Int.reduceMul, Int.reduceNeg, Int.reducePow, Int.reduceEq, ↓reduceIte, Nat.reduceEqDiff, Nat.reduceAdd, Nat.reduceMul, Nat.reduceLeDiff, Nat.reduceSub, Nat.reduceLT, Int.reduceToNat, Int.reduceLT, Int.reduceLE, reduceCtorEq]))
              exact good _ _ _ ht hO
          · rw [if_pos rfl] at hs
            unfold at1 at hs
            have hp : q[0]? = some (q[0]'(by omega)) := List.getElem?_eq_getElem (by omega)
            have hpL : q[q.length - 1]? = some (q[q.length - 1]'(by omega)) := List.getElem?_eq_getElem (by omega)
            have hr3 : RPt M3 N3 r1 q := hr2.keep' (by omega) (fun id hid => by rw [tm id (hbel id hid), sm id (hbel id hid)])
            obtain ⟨id, off, cap', hra, hid, hrd⟩ := hr3.at cs2 hp
            obtain ⟨id', off', cap2, hra', hid', hrdL⟩ := hr3.at cs2 hpL
            rw [hra] at hra'
            simp only [Reg.one.injEq, Cell.sl.injEq, true_and] at hra'
            obtain ⟨rfl, rfl, rfl, _⟩ := hra'
            rw [Nat.zero_mul, Nat.add_zero] at hrd
            have ip := all_at hal hp
            have ipL := all_at hal hpL
            have d1 : ((0 : Int) < (q.length : Int)) = True := eq_true (by omega)
            have d3 : (0 ≤ (q.length : Int) - 1) = True := eq_true (by omega)
            have d4 : ((q.length : Int) - 1 < (q.length : Int)) = True := eq_true (by omega)
            have d5 : IntKind.i64.wrap ((q.length : Int) - 1) = (q.length : Int) - 1 := wr_eq (by omega) (by omega)
            have d8 : ((q.length : Int) - 1).toNat = q.length - 1 := by omega
            rw [hra] at t0
            rw [hp, hpL] at hs
            have hs2 : alongI h q false ++ [discI h (q[0]'(by omega))] ++ [discI h (q[q.length - 1]'(by omega))] = strokeI q false h 1 := by rw [hs, List.append_assoc]
            generalize (q[0]'(by omega)) = u at *
            generalize (q[q.length - 1]'(by omega)) = v at *
            have okB : ∀ x ∈ alongI h q false ++ [discI h u] ++ [discI h v], x.1 = x.2.all inP := fun x hx => by
              rw [List.mem_append, List.mem_append, List.mem_singleton, List.mem_singleton] at hx
              rcases hx with (hx | hx) | hx
              · exact okA x hx
              · subst hx; rfl
              · subst hx; rfl
            have l16 : ∀ x ∈ alongI h q false ++ [discI h u] ++ [discI h v], x.2.length < 4294967296 := fun x hx => by
              rw [List.mem_append, List.mem_append, List.mem_singleton, List.mem_singleton] at hx
              rcases hx with (hx | hx) | hx
              · exact along_l16 h q false x hx
              · subst hx; show 16 < 4294967296; decide
              · subst hx; show 16 < 4294967296; decide
            try simp only [r18_0, r18_1, r18_2, r18_3, r18_4, r18_5, r18_6, r18_7, r18_8, r18_9, r18_10, r18_12, r18_13, r18_14, r18_15, r18_16, r18_11, r18_17, r18_18, r18_20, r18_21, r18_19, r18_22, r18_23, r18_24, r18_25, r18_26, r18_27, r18_29, r18_30, r18_28, r18_31, c18, F18, t0, t1, t2, t3, t11, c2, d1, hrd, Int.toNat_zero, Int.reduceToNat, Nat.zero_mul, Nat.add_zero, go_sem, Int.reduceTMod, Int.reduceTDiv, Int.reduceDiv, Int.reduceMod, Int.reduceAdd, Int.reduceSub, Int.reduceMul, Int.reduceNeg, Int.reducePow, Int.reduceEq, ↓reduceIte, Nat.reduceEqDiff, Nat.reduceAdd, Nat.reduceMul, Nat.reduceLeDiff, Nat.reduceSub, Nat.reduceLT, Int.reduceToNat, Int.reduceLT, Int.reduceLE, reduceCtorEq]
            repeat' ((first | refine FK_split (fun h_ => ?_) (fun h_ => ?_) | refine GK_split (fun h_ => ?_) (fun h_ => ?_) | refine ite_both (fun h_ => ?_) (fun h_ => ?_)) <;> (try simp only [decide_eq_true_eq, decide_eq_false_iff_not, Bool.not_true, Bool.not_false, Bool.not_eq_true', Bool.not_eq_false', Bool.not_eq_eq_eq_not, Decidable.not_not] at h_) <;> (try simp only [r18_0, r18_1, r18_2, r18_3, r18_4, r18_5, r18_6, r18_7, r18_8, r18_9, r18_10, r18_12, r18_13, r18_14, r18_15, r18_16, r18_11, r18_17, r18_18, r18_20, r18_21, r18_19, r18_22, r18_23, r18_24, r18_25, r18_26, r18_27, r18_29, r18_30, r18_28, r18_31, c18, F18, t0, t1, t2, t3, t11, c2, d1, hrd, Int.toNat_zero, Int.reduceToNat, Nat.zero_mul, Nat.add_zero, h_, go_sem, Int.reduceTMod, Int.reduceTDiv, Int.reduceDiv, Int.reduceMod, Int.reduceAdd, Int.reduceSub, Int.reduceMul, Int.reduceNeg, Int.reducePow, Int.reduceEq, ↓reduceIte, Nat.reduceEqDiff, Nat.reduceAdd, Nat.reduceMul, Nat.reduceLeDiff, Nat.reduceSub, Nat.reduceLT, Int.reduceToNat, Int.reduceLT, Int.reduceLE, reduceCtorEq]))
            refine RK_callk ?_
            refine (w_rDiscP ip h1 h2 _ _).mono ?_
            rintro _ m4 n4 ⟨hn4, x, rfl, hx, hxi⟩
            obtain ⟨hO4, hx4, hxs4⟩ := row_after tO (by omega) hx hxi
            rw [← rd_unfrz (m' := m4) hid] at hrdL
            try simp only [r18_0, r18_1, r18_2, r18_3, r18_4, r18_5, r18_6, r18_7, r18_8, r18_9, r18_10, r18_12, r18_13, r18_14, r18_15, r18_16, r18_11, r18_17, r18_18, r18_20, r18_21, r18_19, r18_22, r18_23, r18_24, r18_25, r18_26, r18_27, r18_29, r18_30, r18_28, r18_31, c18, F18, t0, t1, t2, t3, t11, d3, d4, d5, d8, hrdL, go_sem, Int.reduceTMod, Int.reduceTDiv, Int.reduceDiv, Int.reduceMod, Int.reduceAdd, Int.reduceSub, Int.reduceMul, Int.reduceNeg, Int.reducePow, Int.reduceEq, ↓reduceIte, Nat.reduceEqDiff, Nat.reduceAdd, Nat.reduceMul, Nat.reduceLeDiff, Nat.reduceSub, Nat.reduceLT, Int.reduceToNat, Int.reduceLT, Int.reduceLE, reduceCtorEq]
            repeat' ((first | refine FK_split (fun h_ => ?_) (fun h_ => ?_) | refine GK_split (fun h_ => ?_) (fun h_ => ?_) | refine ite_both (fun h_ => ?_) (fun h_ => ?_)) <;> (try simp only [decide_eq_true_eq, decide_eq_false_iff_not, Bool.not_true, Bool.not_false, Bool.not_eq_true', Bool.not_eq_false', Bool.not_eq_eq_eq_not, Decidable.not_not] at h_) <;> (try simp only [r18_0, r18_1, r18_2, r18_3, r18_4, r18_5, r18_6, r18_7, r18_8, r18_9, r18_10, r18_12, r18_13, r18_14, r18_15, r18_16, r18_11, r18_17, r18_18, r18_20, r18_21, r18_19, r18_22, r18_23, r18_24, r18_25, r18_26, r18_27, r18_29, r18_30, r18_28, r18_31, c18, F18, t0, t1, t2, t3, t11, d3, d4, d5, d8, hrdL, h_, go_sem, Int.reduceTMod, Int.reduceTDiv, Int.reduceDiv, Int.reduceMod, Int.reduceAdd, Int.reduceSub, Int.reduceMul, Int.reduceNeg, Int.reducePow, Int.reduceEq, ↓reduceIte, Nat.reduceEqDiff, Nat.reduceAdd, Nat.reduceMul, Nat.reduceLeDiff, Nat.reduceSub, Nat.reduceLT, Int.reduceToNat, Int.reduceLT, Int.reduceLE, reduceCtorEq]))
            refine RK_callk ?_
            refine (w_rDiscP ipL h1 h2 _ _).mono ?_
            rintro _ m5 n5 ⟨hn5, y, rfl, hy, hyi⟩
            obtain ⟨hO5, hy5, hys5⟩ := row_after hO4 (by omega) hy hyi
            have hx5 : RPt (unfrz (unfrz M3 N3 m4) (max N3 n4) m5) (max (max N3 n4) n5) (.one x) (disc u.x u.y h) := hx4.keep (by omega) (fun id hid => by rw [unfrz_at, if_pos hid])
            try simp only [r18_0, r18_1, r18_2, r18_3, r18_4, r18_5, r18_6, r18_7, r18_8, r18_9, r18_10, r18_12, r18_13, r18_14, r18_15, r18_16, r18_11, r18_17, r18_18, r18_20, r18_21, r18_19, r18_22, r18_23, r18_24, r18_25, r18_26, r18_27, r18_29, r18_30, r18_28, r18_31, c18, F18, go_sem, Int.reduceTMod, Int.reduceTDiv, Int.reduceDiv, Int.reduceMod, Int.reduceAdd, Int.reduceSub, Int.reduceMul, Int.reduceNeg, Int.reducePow, Int.reduceEq, ↓reduceIte, Nat.reduceEqDiff, Nat.reduceAdd, Nat.reduceMul, Nat.reduceLeDiff, Nat.reduceSub, Nat.reduceLT, Int.reduceToNat, Int.reduceLT, Int.reduceLE, reduceCtorEq]
            repeat' ((first | refine FK_split (fun h_ => ?_) (fun h_ => ?_) | refine GK_split (fun h_ => ?_) (fun h_ => ?_) | refine ite_both (fun h_ => ?_) (fun h_ => ?_)) <;> (try simp only [decide_eq_true_eq, decide_eq_false_iff_not, Bool.not_true, Bool.not_false, Bool.not_eq_true', Bool.not_eq_false', Bool.not_eq_eq_eq_not, Decidable.not_not] at h_) <;> (try simp only [r18_0, r18_1, r18_2, r18_3, r18_4, r18_5, r18_6, r18_7, r18_8, r18_9, r18_10, r18_12, r18_13, r18_14, r18_15, r18_16, r18_11, r18_17, r18_18, r18_20, r18_21, r18_19, r18_22, r18_23, r18_24, r18_25, r18_26, r18_27, r18_29, r18_30, r18_28, r18_31, c18, F18, h_, go_sem, Int.reduceTMod, Int.reduceTDiv, Int.reduceDiv, Int.reduceMod, Int.reduceAdd, Int.reduceSub, Int.reduceMul, Int.reduceNeg, Int.reducePow, Int.reduceEq, ↓reduceIte, Nat.reduceEqDiff, Nat.reduceAdd, Nat.reduceMul, Nat.reduceLeDiff, Nat.reduceSub, Nat.reduceLT, Int.reduceToNat, Int.reduceLT, Int.reduceLE, reduceCtorEq]))
            refine row_push_two hO5 (by omega) hx5 hxs4 hy5 hys5 (by rw [List.length_map]; omega) ?_
            intro c' m' hO9 hf
            try simp only [r18_0, r18_1, r18_2, r18_3, r18_4, r18_5, r18_6, r18_7, r18_8, r18_9, r18_10, r18_12, r18_13, r18_14, r18_15, r18_16, r18_11, r18_17, r18_18, r18_20, r18_21, r18_19, r18_22, r18_23, r18_24, r18_25, r18_26, r18_27, r18_29, r18_30, r18_28, r18_31, c18, F18, t1, t3, t11, c2, go_sem, Int.reduceTMod, Int.reduceTDiv, Int.reduceDiv, Int.reduceMod, Int.reduceAdd, Int.reduceSub, Int.reduceMul, Int.reduceNeg, Int.reducePow, Int.reduceEq, ↓reduceIte, Nat.reduceEqDiff, Nat.reduceAdd, Nat.reduceMul, Nat.reduceLeDiff, Nat.reduceSub, Nat.reduceLT, Int.reduceToNat, Int.reduceLT, Int.reduceLE, reduceCtorEq]
            repeat' ((first | refine FK_split (fun h_ => ?_) (fun h_ => ?_) | refine GK_split (fun h_ => ?_) (fun h_ => ?_) | refine ite_both (fun h_ => ?_) (fun h_ => ?_)) <;> (try simp only [decide_eq_true_eq, decide_eq_false_iff_not, Bool.not_true, Bool.not_false, Bool.not_eq_true', Bool.not_eq_false', Bool.not_eq_eq_eq_not, Decidable.not_not] at h_) <;> (try simp only [r18_0, r18_1, r18_2, r18_3, r18_4, r18_5, r18_6, r18_7, r18_8, r18_9, r18_10, r18_12, r18_13, r18_14, r18_15, r18_16, r18_11, r18_17, r18_18, r18_20, r18_21, r18_19, r18_22, r18_23, r18_24, r18_25, r18_26, r18_27, r18_29, r18_30, r18_28, r18_31, c18, F18, t1, t3, t11, c2, h_, go_sem, Int.reduceTMod, Int.reduceTDiv, Int.reduceDiv, Int.reduceMod, Int.reduceAdd, Int.reduceSub, Int.reduceMul, Int.reduceNeg, Int.reducePow, Int.reduceEq, ↓reduceIte, Nat.reduceEqDiff, Nat.reduceAdd, Nat.reduceMul, Nat.reduceLeDiff, Nat.reduceSub, Nat.reduceLT, Int.reduceToNat, Int.reduceLT, Int.reduceLE, reduceCtorEq]))
            refine tail _ hs2 okB _ _ _ _ (by simp only [go_sem, Int.reduceTMod, Int.reduceTDiv, Int.reduceDiv, Int.reduceMod, Int.reduceAdd, Int.reduceSub, Int.reduceMul, Int.reduceNeg, Int.reducePow, Int.reduceEq, ↓reduceIte, Nat.reduceEqDiff, Nat.reduceAdd, Nat.reduceMul, Nat.reduceLeDiff, Nat.reduceSub, Nat.reduceLT, Int.reduceToNat, Int.reduceLT, Int.reduceLE, reduceCtorEq]; rw [List.map_append, List.map_append]; exact hO9) (by simp only [go_sem, Int.reduceTMod, Int.reduceTDiv, Int.reduceDiv, Int.reduceMod, Int.reduceAdd, Int.reduceSub, Int.reduceMul, Int.reduceNeg, Int.reducePow, Int.reduceEq, ↓reduceIte, Nat.reduceEqDiff, Nat.reduceAdd, Nat.reduceMul, Nat.reduceLeDiff, Nat.reduceSub, Nat.reduceLT, Int.reduceToNat, Int.reduceLT, Int.reduceLE, reduceCtorEq]) (fun l hl => ?_) (by simp only [List.length_append, List.length_cons, List.length_nil]; omega) (fun hf s a b => ?_) (fun ht s hO => ?_)
            · obtain ⟨x, hx, rfl⟩ := List.mem_map.1 hl
              exact l16 x hx
            · skip
              try simp only [a, b, go_sem, Int.reduceTMod, Int.reduceTDiv, Int.reduceDiv, Int.reduceMod, Int.reduceAdd, Int.reduceSub, Int.reduceMul, Int.reduceNeg, Int.reducePow, Int.reduceEq, ↓reduceIte, Nat.reduceEqDiff, Nat.reduceAdd, Nat.reduceMul, Nat.reduceLeDiff, Nat.reduceSub, Nat.reduceLT, Int.reduceToNat, Int.reduceLT, Int.reduceLE, reduceCtorEq]
              repeat' ((first | refine FK_split (fun h_ => ?_) (fun h_ => ?_) | refine GK_split (fun h_ => ?_) (fun h_ => ?_) | refine ite_both (fun h_ => ?_) (fun h_ => ?_)) <;> (try simp only [decide_eq_true_eq, decide_eq_false_iff_not, Bool.not_true, Bool.not_false, Bool.not_eq_true', Bool.not_eq_false', Bool.not_eq_eq_eq_not, Decidable.not_not] at h_) <;> (try simp only [a, b, h_, go_sem, Int.reduceTMod, Int.reduceTDiv, Int.reduceDiv, Int.reduceMod, Int.reduceAdd, Int.reduceSub, Int.reduceMul, Int.reduceNeg, Int.reducePow, Int.reduceEq, ↓reduceIte, Nat.reduceEqDiff, Nat.reduceAdd, Nat.reduceMul, Nat.reduceLeDiff, Nat.reduceSub, Nat.reduceLT, Int.reduceToNat, Int.reduceLT, Int.reduceLE, reduceCtorEq]))
              exact bad _ _ hf
            · skip
              try simp only [r18_0, r18_1, r18_2, r18_3, r18_4, r18_5, r18_6, r18_7, r18_8, r18_9, r18_10, r18_12, r18_13, r18_14, r18_15, r18_16, r18_11, r18_17, r18_18, r18_20, r18_21, r18_19, r18_22, r18_23, r18_24, r18_25, r18_26, r18_27, r18_29, r18_30, r18_28, r18_31, c18, F18, go_sem, Int.reduceTMod, Int.reduceTDiv, Int.reduceDiv, Int.reduceMod, Int.reduceAdd, Int.reduceSub, Int.reduceMul, Int.reduceNeg, Int.reducePow, Int.reduceEq, ↓reduceIte, Nat.reduceEqDiff, Nat.reduceAdd, Nat.reduceMul, Nat.reduceLeDiff, Nat.reduceSub, Nat.reduceLT, Int.reduceToNat, Int.reduceLT, Int.reduceLE, reduceCtorEq]
              repeat' ((first | refine FK_split (fun h_ => ?_) (fun h_ => ?_) | refine GK_split (fun h_ => ?_) (fun h_ => ?_) | refine ite_both (fun h_ => ?_) (fun h_ => ?_)) <;> (try simp only [decide_eq_true_eq, decide_eq_false_iff_not, Bool.not_true, Bool.not_false, Bool.not_eq_true', Bool.not_eq_false', Bool.not_eq_eq_eq_not, Decidable.not_not] at h_) <;> (try simp only [r18_0, r18_1, r18_2, r18_3, r18_4, r18_5, r18_6, r18_7, r18_8, r18_9, r18_10, r18_12, r18_13, r18_14, r18_15, r18_16, r18_11, r18_17, r18_18, r18_20, r18_21, r18_19, r18_22, r18_23, r18_24, r18_25, r18_26, r18_27, r18_29, r18_30, r18_28, r18_31, c18, F18, h_, go_sem, Int.reduceTMod, Int.reduceTDiv, Int.reduceDiv, Int.reduceMod, Int.reduceAdd, Int.reduceSub, Int.reduceMul, Int.reduceNeg, Int.reducePow, Int.reduceEq, ↓reduceIte, Nat.reduceEqDiff, Nat.reduceAdd, Nat.reduceMul, Nat.reduceLeDiff, Nat.reduceSub, Nat.reduceLT, Int.reduceToNat, Int.reduceLT, Int.reduceLE, reduceCtorEq]))
              exact good _ _ _ ht hO
          · rw [if_neg (by decide), if_pos rfl] at hs
            unfold at2 at hs
            have hp : q[0]? = some (q[0]'(by omega)) := List.getElem?_eq_getElem (by omega)
            have hpL : q[q.length - 1]? = some (q[q.length - 1]'(by omega)) := List.getElem?_eq_getElem (by omega)
            have hr3 : RPt M3 N3 r1 q := hr2.keep' (by omega) (fun id hid => by rw [tm id (hbel id hid), sm id (hbel id hid)])
            have hp1 : q[1]? = some (q[1]'(by omega)) := List.getElem?_eq_getElem (by omega)
            have hp2 : q[q.length - 2]? = some (q[q.length - 2]'(by omega)) := List.getElem?_eq_getElem (by omega)
            obtain ⟨id, off, cap', hra, hid, hrd⟩ := hr3.at cs2 hp
            obtain ⟨id3, off3, cap3, hra3, _, hrd1⟩ := hr3.at cs2 hp1
            obtain ⟨id4, off4, cap4, hra4, _, hrd2⟩ := hr3.at cs2 hp2
            obtain ⟨id', off', cap2, hra', hid', hrdL⟩ := hr3.at cs2 hpL
            rw [hra] at hra' hra3 hra4
            simp only [Reg.one.injEq, Cell.sl.injEq, true_and] at hra' hra3 hra4
            obtain ⟨rfl, rfl, _⟩ := hra3
            obtain ⟨rfl, rfl, _⟩ := hra4
            obtain ⟨rfl, rfl, rfl, _⟩ := hra'
            rw [Nat.zero_mul, Nat.add_zero] at hrd
            have ip := all_at hal hp
            have ipL := all_at hal hpL
            have ip1 := all_at hal hp1
            have ip2 := all_at hal hp2
            have a01 := hadj 0 _ _ hp hp1
            have aLL := hadj (q.length - 2) _ _ hp2 (by rw [show q.length - 2 + 1 = q.length - 1 by omega]; exact hpL)
            have g01 := sL 0 (by omega) _ _ hp hp1
            have gLL := sL (q.length - 2) (by omega) _ _ hp2 (by rw [show q.length - 2 + 1 = q.length - 1 by omega]; exact hpL)
            have d2 : ((1 : Int) < (q.length : Int)) = True := eq_true (by omega)
            have d6 : IntKind.i64.wrap ((q.length : Int) - 2) = (q.length : Int) - 2 := wr_eq (by omega) (by omega)
            have d7 : (0 ≤ (q.length : Int) - 2) = True := eq_true (by omega)
            have d9 : ((q.length : Int) - 2 < (q.length : Int)) = True := eq_true (by omega)
            have d10 : ((q.length : Int) - 2).toNat = q.length - 2 := by omega
            have d1 : ((0 : Int) < (q.length : Int)) = True := eq_true (by omega)
            have d3 : (0 ≤ (q.length : Int) - 1) = True := eq_true (by omega)
            have d4 : ((q.length : Int) - 1 < (q.length : Int)) = True := eq_true (by omega)
            have d5 : IntKind.i64.wrap ((q.length : Int) - 1) = (q.length : Int) - 1 := wr_eq (by omega) (by omega)
            have d8 : ((q.length : Int) - 1).toNat = q.length - 1 := by omega
            rw [hra] at t0
            rw [hp, hp1, hp2, hpL] at hs
            have hs2 : alongI h q false ++ [firstI h (q[0]'(by omega)) (q[1]'(by omega))] ++ [lastI h (q[q.length - 2]'(by omega)) (q[q.length - 1]'(by omega))] = strokeI q false h 2 := by rw [hs, List.append_assoc]
            generalize (q[0]'(by omega)) = u at *
            generalize (q[1]'(by omega)) = u1 at *
            generalize (q[q.length - 2]'(by omega)) = v1 at *
            generalize (q[q.length - 1]'(by omega)) = v at *
            have okB : ∀ x ∈ alongI h q false ++ [firstI h u u1] ++ [lastI h v1 v], x.1 = x.2.all inP := fun x hx => by
              rw [List.mem_append, List.mem_append, List.mem_singleton, List.mem_singleton] at hx
              rcases hx with (hx | hx) | hx
              · exact okA x hx
              · subst hx; rfl
              · subst hx; rfl
            have l16 : ∀ x ∈ alongI h q false ++ [firstI h u u1] ++ [lastI h v1 v], x.2.length < 4294967296 := fun x hx => by
              rw [List.mem_append, List.mem_append, List.mem_singleton, List.mem_singleton] at hx
              rcases hx with (hx | hx) | hx
              · exact along_l16 h q false x hx
              · subst hx; show 4 < 4294967296; decide
              · subst hx; show 4 < 4294967296; decide
            try simp only [r18_0, r18_1, r18_2, r18_3, r18_4, r18_5, r18_6, r18_7, r18_8, r18_9, r18_10, r18_12, r18_13, r18_14, r18_15, r18_16, r18_11, r18_17, r18_18, r18_20, r18_21, r18_19, r18_22, r18_23, r18_24, r18_25, r18_26, r18_27, r18_29, r18_30, r18_28, r18_31, c18, F18, t0, t1, t2, t3, t11, c2, d1, d2, hrd, hrd1, Nat.one_mul, Int.toNat_zero, Int.reduceToNat, Nat.zero_mul, Nat.add_zero, go_sem, Int.reduceTMod, Int.reduceTDiv, Int.reduceDiv, Int.reduceMod, Int.reduceAdd, Int.reduceSub, Int.reduceMul, Int.reduceNeg, Int.reducePow, Int.reduceEq, ↓reduceIte, Nat.reduceEqDiff, Nat.reduceAdd, Nat.reduceMul, Nat.reduceLeDiff, Nat.reduceSub, Nat.reduceLT, Int.reduceToNat, Int.reduceLT, Int.reduceLE, reduceCtorEq]
            repeat' ((first | refine FK_split (fun h_ => ?_) (fun h_ => ?_) | refine GK_split (fun h_ => ?_) (fun h_ => ?_) | refine ite_both (fun h_ => ?_) (fun h_ => ?_)) <;> (try simp only [decide_eq_true_eq, decide_eq_false_iff_not, Bool.not_true, Bool.not_false, Bool.not_eq_true', Bool.not_eq_false', Bool.not_eq_eq_eq_not, Decidable.not_not] at h_) <;> (try simp only [r18_0, r18_1, r18_2, r18_3, r18_4, r18_5, r18_6, r18_7, r18_8, r18_9, r18_10, r18_12, r18_13, r18_14, r18_15, r18_16, r18_11, r18_17, r18_18, r18_20, r18_21, r18_19, r18_22, r18_23, r18_24, r18_25, r18_26, r18_27, r18_29, r18_30, r18_28, r18_31, c18, F18, t0, t1, t2, t3, t11, c2, d1, d2, hrd, hrd1, Nat.one_mul, Int.toNat_zero, Int.reduceToNat, Nat.zero_mul, Nat.add_zero, h_, go_sem, Int.reduceTMod, Int.reduceTDiv, Int.reduceDiv, Int.reduceMod, Int.reduceAdd, Int.reduceSub, Int.reduceMul, Int.reduceNeg, Int.reducePow, Int.reduceEq, ↓reduceIte, Nat.reduceEqDiff, Nat.reduceAdd, Nat.reduceMul, Nat.reduceLeDiff, Nat.reduceSub, Nat.reduceLT, Int.reduceToNat, Int.reduceLT, Int.reduceLE, reduceCtorEq]))
            refine RK_callk ?_
            refine (w_rFirst ip ip1 a01 h1 h2 g01 _ _).mono ?_
            rintro _ m4 n4 ⟨hn4, x, rfl, hx, hxi⟩
            obtain ⟨hO4, hx4, hxs4⟩ := row_after tO (by omega) hx hxi
            rw [← rd_unfrz (m' := m4) hid] at hrdL hrd2
            try simp only [r18_0, r18_1, r18_2, r18_3, r18_4, r18_5, r18_6, r18_7, r18_8, r18_9, r18_10, r18_12, r18_13, r18_14, r18_15, r18_16, r18_11, r18_17, r18_18, r18_20, r18_21, r18_19, r18_22, r18_23, r18_24, r18_25, r18_26, r18_27, r18_29, r18_30, r18_28, r18_31, c18, F18, t0, t1, t2, t3, t11, d3, d4, d5, d6, d7, d8, d9, d10, hrdL, hrd2, go_sem, Int.reduceTMod, Int.reduceTDiv, Int.reduceDiv, Int.reduceMod, Int.reduceAdd, Int.reduceSub, Int.reduceMul, Int.reduceNeg, Int.reducePow, Int.reduceEq, ↓reduceIte, Nat.reduceEqDiff, Nat.reduceAdd, Nat.reduceMul, Nat.reduceLeDiff, Nat.reduceSub, Nat.reduceLT, Int.reduceToNat, Int.reduceLT, Int.reduceLE, reduceCtorEq]
            repeat' ((first | refine FK_split (fun h_ => ?_) (fun h_ => ?_) | refine GK_split (fun h_ => ?_) (fun h_ => ?_) | refine ite_both (fun h_ => ?_) (fun h_ => ?_)) <;> (try simp only [decide_eq_true_eq, decide_eq_false_iff_not, Bool.not_true, Bool.not_false, Bool.not_eq_true', Bool.not_eq_false', Bool.not_eq_eq_eq_not, Decidable.not_not] at h_) <;> (try simp only [r18_0, r18_1, r18_2, r18_3, r18_4, r18_5, r18_6, r18_7, r18_8, r18_9, r18_10, r18_12, r18_13, r18_14, r18_15, r18_16, r18_11, r18_17, r18_18, r18_20, r18_21, r18_19, r18_22, r18_23, r18_24, r18_25, r18_26, r18_27, r18_29, r18_30, r18_28, r18_31, c18, F18, t0, t1, t2, t3, t11, d3, d4, d5, d6, d7, d8, d9, d10, hrdL, hrd2, h_, go_sem, Int.reduceTMod, Int.reduceTDiv, Int.reduceDiv, Int.reduceMod, Int.reduceAdd, Int.reduceSub, Int.reduceMul, Int.reduceNeg, Int.reducePow, Int.reduceEq, ↓reduceIte, Nat.reduceEqDiff, Nat.reduceAdd, Nat.reduceMul, Nat.reduceLeDiff, Nat.reduceSub, Nat.reduceLT, Int.reduceToNat, Int.reduceLT, Int.reduceLE, reduceCtorEq]))
            refine RK_callk ?_
            refine (w_rLast ip2 ipL aLL h1 h2 gLL _ _).mono ?_
            rintro _ m5 n5 ⟨hn5, y, rfl, hy, hyi⟩
            obtain ⟨hO5, hy5, hys5⟩ := row_after hO4 (by omega) hy hyi
            have hx5 : RPt (unfrz (unfrz M3 N3 m4) (max N3 n4) m5) (max (max N3 n4) n5) (.one x) (firstQ u u1 h) := hx4.keep (by omega) (fun id hid => by rw [unfrz_at, if_pos hid])
            try simp only [r18_0, r18_1, r18_2, r18_3, r18_4, r18_5, r18_6, r18_7, r18_8, r18_9, r18_10, r18_12, r18_13, r18_14, r18_15, r18_16, r18_11, r18_17, r18_18, r18_20, r18_21, r18_19, r18_22, r18_23, r18_24, r18_25, r18_26, r18_27, r18_29, r18_30, r18_28, r18_31, c18, F18, go_sem, Int.reduceTMod, Int.reduceTDiv, Int.reduceDiv, Int.reduceMod, Int.reduceAdd, Int.reduceSub, Int.reduceMul, Int.reduceNeg, Int.reducePow, Int.reduceEq, ↓reduceIte, Nat.reduceEqDiff, Nat.reduceAdd, Nat.reduceMul, Nat.reduceLeDiff, Nat.reduceSub, Nat.reduceLT, Int.reduceToNat, Int.reduceLT, Int.reduceLE, reduceCtorEq]
            repeat' ((first | refine FK_split (fun h_ => ?_) (fun h_ => ?_) | refine GK_split (fun h_ => ?_) (fun h_ => ?_) | refine ite_both (fun h_ => ?_) (fun h_ => ?_)) <;> (try simp only [decide_eq_true_eq, decide_eq_false_iff_not, Bool.not_true, Bool.not_false, Bool.not_eq_true', Bool.not_eq_false', Bool.not_eq_eq_eq_not, Decidable.not_not] at h_) <;> (try simp only [r18_0, r18_1, r18_2, r18_3, r18_4, r18_5, r18_6, r18_7, r18_8, r18_9, r18_10, r18_12, r18_13, r18_14, r18_15, r18_16, r18_11, r18_17, r18_18, r18_20, r18_21, r18_19, r18_22, r18_23, r18_24, r18_25, r18_26, r18_27, r18_29, r18_30, r18_28, r18_31, c18, F18, h_, go_sem, Int.reduceTMod, Int.reduceTDiv, Int.reduceDiv, Int.reduceMod, Int.reduceAdd, Int.reduceSub, Int.reduceMul, Int.reduceNeg, Int.reducePow, Int.reduceEq, ↓reduceIte, Nat.reduceEqDiff, Nat.reduceAdd, Nat.reduceMul, Nat.reduceLeDiff, Nat.reduceSub, Nat.reduceLT, Int.reduceToNat, Int.reduceLT, Int.reduceLE, reduceCtorEq]))
            refine row_push_two hO5 (by omega) hx5 hxs4 hy5 hys5 (by rw [List.length_map]; omega) ?_
            intro c' m' hO9 hf
            try simp only [r18_0, r18_1, r18_2, r18_3, r18_4, r18_5, r18_6, r18_7, r18_8, r18_9, r18_10, r18_12, r18_13, r18_14, r18_15, r18_16, r18_11, r18_17, r18_18, r18_20, r18_21, r18_19, r18_22, r18_23, r18_24, r18_25, r18_26, r18_27, r18_29, r18_30, r18_28, r18_31, c18, F18, t1, t3, t11, c2, go_sem, Int.reduceTMod, Int.reduceTDiv, Int.reduceDiv, Int.reduceMod, Int.reduceAdd, Int.reduceSub, Int.reduceMul, Int.reduceNeg, Int.reducePow, Int.reduceEq, ↓reduceIte, Nat.reduceEqDiff, Nat.reduceAdd, Nat.reduceMul, Nat.reduceLeDiff, Nat.reduceSub, Nat.reduceLT, Int.reduceToNat, Int.reduceLT, Int.reduceLE, reduceCtorEq]
            repeat' ((first | refine FK_split (fun h_ => ?_) (fun h_ => ?_) | refine GK_split (fun h_ => ?_) (fun h_ => ?_) | refine ite_both (fun h_ => ?_) (fun h_ => ?_)) <;> (try simp only [decide_eq_true_eq, decide_eq_false_iff_not, Bool.not_true, Bool.not_false, Bool.not_eq_true', Bool.not_eq_false', Bool.not_eq_eq_eq_not, Decidable.not_not] at h_) <;> (try simp only [r18_0, r18_1, r18_2, r18_3, r18_4, r18_5, r18_6, r18_7, r18_8, r18_9, r18_10, r18_12, r18_13, r18_14, r18_15, r18_16, r18_11, r18_17, r18_18, r18_20, r18_21, r18_19, r18_22, r18_23, r18_24, r18_25, r18_26, r18_27, r18_29, r18_30, r18_28, r18_31, c18, F18, t1, t3, t11, c2, h_, go_sem, Int.reduceTMod, Int.reduceTDiv, Int.reduceDiv, Int.reduceMod, Int.reduceAdd, Int.reduceSub, Int.reduceMul, Int.reduceNeg, Int.reducePow, Int.reduceEq, ↓reduceIte, Nat.reduceEqDiff, Nat.reduceAdd, Nat.reduceMul, Nat.reduceLeDiff, Nat.reduceSub, Nat.reduceLT, Int.reduceToNat, Int.reduceLT, Int.reduceLE, reduceCtorEq]))
            refine tail _ hs2 okB _ _ _ _ (by simp only [go_sem, Int.reduceTMod, Int.reduceTDiv, Int.reduceDiv, Int.reduceMod, Int.reduceAdd, Int.reduceSub, Int.reduceMul, Int.reduceNeg, Int.reducePow, Int.reduceEq, ↓reduceIte, Nat.reduceEqDiff, Nat.reduceAdd, Nat.reduceMul, Nat.reduceLeDiff, Nat.reduceSub, Nat.reduceLT, Int.reduceToNat, Int.reduceLT, Int.reduceLE, reduceCtorEq]; rw [List.map_append, List.map_append]; exact hO9) (by simp only [go_sem, Int.reduceTMod, Int.reduceTDiv, Int.reduceDiv, Int.reduceMod, Int.reduceAdd, Int.reduceSub, Int.reduceMul, Int.reduceNeg, Int.reducePow, Int.reduceEq, ↓reduceIte, Nat.reduceEqDiff, Nat.reduceAdd, Nat.reduceMul, Nat.reduceLeDiff, Nat.reduceSub, Nat.reduceLT, Int.reduceToNat, Int.reduceLT, Int.reduceLE, reduceCtorEq]) (fun l hl => ?_) (by simp only [List.length_append, List.length_cons, List.length_nil]; omega) (fun hf s a b => ?_) (fun ht s hO => ?_)
            · obtain ⟨x, hx, rfl⟩ := List.mem_map.1 hl
              exact l16 x hx
            · skip
              try simp only [a, b, go_sem, Int.reduceTMod, Int.reduceTDiv, Int.reduceDiv, Int.reduceMod, Int.reduceAdd, Int.reduceSub, Int.reduceMul, Int.reduceNeg, Int.reducePow, Int.reduceEq, ↓reduceIte, Nat.reduceEqDiff, Nat.reduceAdd, Nat.reduceMul, Nat.reduceLeDiff, Nat.reduceSub, Nat.reduceLT, Int.reduceToNat, Int.reduceLT, Int.reduceLE, reduceCtorEq]
              repeat' ((first | refine FK_split (fun h_ => ?_) (fun h_ => ?_) | refine GK_split (fun h_ => ?_) (fun h_ => ?_) | refine ite_both (fun h_ => ?_) (fun h_ => ?_)) <;> (try simp only [decide_eq_true_eq, decide_eq_false_iff_not, Bool.not_true, Bool.not_false, Bool.not_eq_true', Bool.not_eq_false', Bool.not_eq_eq_eq_not, Decidable.not_not] at h_) <;> (try simp only [a, b, h_, go_sem, Int.reduceTMod, Int.reduceTDiv, Int.reduceDiv, Int.reduceMod, Int.reduceAdd, Int.reduceSub, Int.reduceMul, Int.reduceNeg, Int.reducePow, Int.reduceEq, ↓reduceIte, Nat.reduceEqDiff, Nat.reduceAdd, Nat.reduceMul, Nat.reduceLeDiff, Nat.reduceSub, Nat.reduceLT, Int.reduceToNat, Int.reduceLT, Int.reduceLE, reduceCtorEq]))
              exact bad _ _ hf
            · skip
              try simp only [r18_0, r18_1, r18_2, r18_3, r18_4, r18_5, r18_6, r18_7, r18_8, r18_9, r18_10, r18_12, r18_13, r18_14, r18_15, r18_16, r18_11, r18_17, r18_18, r18_20, r18_21, r18_19, r18_22, r18_23, r18_24, r18_25, r18_26, r18_27, r18_29, r18_30, r18_28, r18_31, c18, F18, go_sem, Int.reduceTMod, Int.reduceTDiv, Int.reduceDiv, Int.reduceMod, Int.reduceAdd, Int.reduceSub, Int.reduceMul, Int.reduceNeg, Int.reducePow, Int.reduceEq, ↓reduceIte, Nat.reduceEqDiff, Nat.reduceAdd, Nat.reduceMul, Nat.reduceLeDiff, Nat.reduceSub, Nat.reduceLT, Int.reduceToNat, Int.reduceLT, Int.reduceLE, reduceCtorEq]
              repeat' ((first | refine FK_split (fun h_ => ?_) (fun h_ => ?_) | refine GK_split (fun h_ => ?_) (fun h_ => ?_) | refine ite_both (fun h_ => ?_) (fun h_ => ?_)) <;> (try simp only [decide_eq_true_eq, decide_eq_false_iff_not, Bool.not_true, Bool.not_false, Bool.not_eq_true', Bool.not_eq_false', Bool.not_eq_eq_eq_not, Decidable.not_not] at h_) <;> (try simp only [r18_0, r18_1, r18_2, r18_3, r18_4, r18_5, r18_6, r18_7, r18_8, r18_9, r18_10, r18_12, r18_13, r18_14, r18_15, r18_16, r18_11, r18_17, r18_18, r18_20, r18_21, r18_19, r18_22, r18_23, r18_24, r18_25, r18_26, r18_27, r18_29, r18_30, r18_28, r18_31, c18, F18, h_, go_sem, Int.reduceTMod, Int.reduceTDiv, Int.reduceDiv, Int.reduceMod, Int.reduceAdd, Int.reduceSub, Int.reduceMul, Int.reduceNeg, Int.reducePow, Int.reduceEq, ↓reduceIte, Nat.reduceEqDiff, Nat.reduceAdd, Nat.reduceMul, Nat.reduceLeDiff, Nat.reduceSub, Nat.reduceLT, Int.reduceToNat, Int.reduceLT, Int.reduceLE, reduceCtorEq]))
              exact good _ _ _ ht hO
        · have hs2 : alongI h q true = strokeI q true h cap := by rw [hs, if_pos rfl, List.append_nil, hal2]
          try simp only [r18_0, r18_1, r18_2, r18_3, r18_4, r18_5, r18_6, r18_7, r18_8, r18_9, r18_10, r18_12, r18_13, r18_14, r18_15, r18_16, r18_11, r18_17, r18_18, r18_20, r18_21, r18_19, r18_22, r18_23, r18_24, r18_25, r18_26, r18_27, r18_29, r18_30, r18_28, r18_31, c18, F18, t1, t11, c2, go_sem, Int.reduceTMod, Int.reduceTDiv, Int.reduceDiv, Int.reduceMod, Int.reduceAdd, Int.reduceSub, Int.reduceMul, Int.reduceNeg, Int.reducePow, Int.reduceEq, ↓reduceIte, Nat.reduceEqDiff, Nat.reduceAdd, Nat.reduceMul, Nat.reduceLeDiff, Nat.reduceSub, Nat.reduceLT, Int.reduceToNat, Int.reduceLT, Int.reduceLE, reduceCtorEq]
          repeat' ((first | refine FK_split (fun h_ => ?_) (fun h_ => ?_) | refine GK_split (fun h_ => ?_) (fun h_ => ?_) | refine ite_both (fun h_ => ?_) (fun h_ => ?_)) <;> (try simp only [decide_eq_true_eq, decide_eq_false_iff_not, Bool.not_true, Bool.not_false, Bool.not_eq_true', Bool.not_eq_false', Bool.not_eq_eq_eq_not, Decidable.not_not] at h_) <;> (try simp only [r18_0, r18_1, r18_2, r18_3, r18_4, r18_5, r18_6, r18_7, r18_8, r18_9, r18_10, r18_12, r18_13, r18_14, r18_15, r18_16, r18_11, r18_17, r18_18, r18_20, r18_21, r18_19, r18_22, r18_23, r18_24, r18_25, r18_26, r18_27, r18_29, r18_30, r18_28, r18_31, c18, F18, t1, t11, c2, h_, go_sem, Int.reduceTMod, Int.reduceTDiv, Int.reduceDiv, Int.reduceMod, Int.reduceAdd, Int.reduceSub, Int.reduceMul, Int.reduceNeg, Int.reducePow, Int.reduceEq, ↓reduceIte, Nat.reduceEqDiff, Nat.reduceAdd, Nat.reduceMul, Nat.reduceLeDiff, Nat.reduceSub, Nat.reduceLT, Int.reduceToNat, Int.reduceLT, Int.reduceLE, reduceCtorEq]))
          refine tail _ hs2 okA _ _ _ _ (by simp only [go_sem, Int.reduceTMod, Int.reduceTDiv, Int.reduceDiv, Int.reduceMod, Int.reduceAdd, Int.reduceSub, Int.reduceMul, Int.reduceNeg, Int.reducePow, Int.reduceEq, ↓reduceIte, Nat.reduceEqDiff, Nat.reduceAdd, Nat.reduceMul, Nat.reduceLeDiff, Nat.reduceSub, Nat.reduceLT, Int.reduceToNat, Int.reduceLT, Int.reduceLE, reduceCtorEq]; exact tO) (by simp only [go_sem, Int.reduceTMod, Int.reduceTDiv, Int.reduceDiv, Int.reduceMod, Int.reduceAdd, Int.reduceSub, Int.reduceMul, Int.reduceNeg, Int.reducePow, Int.reduceEq, ↓reduceIte, Nat.reduceEqDiff, Nat.reduceAdd, Nat.reduceMul, Nat.reduceLeDiff, Nat.reduceSub, Nat.reduceLT, Int.reduceToNat, Int.reduceLT, Int.reduceLE, reduceCtorEq]) (fun l hl => ?_) (by omega) (fun hf s a b => ?_) (fun ht s hO => ?_)
          · obtain ⟨x, hx, rfl⟩ := List.mem_map.1 hl
            exact along_l16 h q true x hx
          · skip
            try simp only [a, b, go_sem, Int.reduceTMod, Int.reduceTDiv, Int.reduceDiv, Int.reduceMod, Int.reduceAdd, Int.reduceSub, Int.reduceMul, Int.reduceNeg, Int.reducePow, Int.reduceEq, ↓reduceIte, Nat.reduceEqDiff, Nat.reduceAdd, Nat.reduceMul, Nat.reduceLeDiff, Nat.reduceSub, Nat.reduceLT, Int.reduceToNat, Int.reduceLT, Int.reduceLE, reduceCtorEq]
            repeat' ((first | refine FK_split (fun h_ => ?_) (fun h_ => ?_) | refine GK_split (fun h_ => ?_) (fun h_ => ?_) | refine ite_both (fun h_ => ?_) (fun h_ => ?_)) <;> (try simp only [decide_eq_true_eq, decide_eq_false_iff_not, Bool.not_true, Bool.not_false, Bool.not_eq_true', Bool.not_eq_false', Bool.not_eq_eq_eq_not, Decidable.not_not] at h_) <;> (try simp only [a, b, h_, go_sem, Int.reduceTMod, Int.reduceTDiv, Int.reduceDiv, Int.reduceMod, Int.reduceAdd, Int.reduceSub, Int.reduceMul, Int.reduceNeg, Int.reducePow, Int.reduceEq, ↓reduceIte, Nat.reduceEqDiff, Nat.reduceAdd, Nat.reduceMul, Nat.reduceLeDiff, Nat.reduceSub, Nat.reduceLT, Int.reduceToNat, Int.reduceLT, Int.reduceLE, reduceCtorEq]))
            exact bad _ _ hf
          · skip
            try simp only [r18_0, r18_1, r18_2, r18_3, r18_4, r18_5, r18_6, r18_7, r18_8, r18_9, r18_10, r18_12, r18_13, r18_14, r18_15, r18_16, r18_11, r18_17, r18_18, r18_20, r18_21, r18_19, r18_22, r18_23, r18_24, r18_25, r18_26, r18_27, r18_29, r18_30, r18_28, r18_31, c18, F18, go_sem, Int.reduceTMod, Int.reduceTDiv, Int.reduceDiv, Int.reduceMod, Int.reduceAdd, Int.reduceSub, Int.reduceMul, Int.reduceNeg, Int.reducePow, Int.reduceEq, ↓reduceIte, Nat.reduceEqDiff, Nat.reduceAdd, Nat.reduceMul, Nat.reduceLeDiff, Nat.reduceSub, Nat.reduceLT, Int.reduceToNat, Int.reduceLT, Int.reduceLE, reduceCtorEq]
            repeat' ((first | refine FK_split (fun h_ => ?_) (fun h_ => ?_) | refine GK_split (fun h_ => ?_) (fun h_ => ?_) | refine ite_both (fun h_ => ?_) (fun h_ => ?_)) <;> (try simp only [decide_eq_true_eq, decide_eq_false_iff_not, Bool.not_true, Bool.not_false, Bool.not_eq_true', Bool.not_eq_false', Bool.not_eq_eq_eq_not, Decidable.not_not] at h_) <;> (try simp only [r18_0, r18_1, r18_2, r18_3, r18_4, r18_5, r18_6, r18_7, r18_8, r18_9, r18_10, r18_12, r18_13, r18_14, r18_15, r18_16, r18_11, r18_17, r18_18, r18_20, r18_21, r18_19, r18_22, r18_23, r18_24, r18_25, r18_26, r18_27, r18_29, r18_30, r18_28, r18_31, c18, F18, h_, go_sem, Int.reduceTMod, Int.reduceTDiv, Int.reduceDiv, Int.reduceMod, Int.reduceAdd, Int.reduceSub, Int.reduceMul, Int.reduceNeg, Int.reducePow, Int.reduceEq, ↓reduceIte, Nat.reduceEqDiff, Nat.reduceAdd, Nat.reduceMul, Nat.reduceLeDiff, Nat.reduceSub, Nat.reduceLT, Int.reduceToNat, Int.reduceLT, Int.reduceLE, reduceCtorEq]))
            exact good _ _ _ ht hO

/- The law StrokePens walked. Conditions: those that each theorem names. -/
open Go Go.Proofs
set_option linter.unusedSimpArgs false
set_option linter.unusedVariables false

theorem OL.sidge {base : Nat} {m : Mem} {n : Nat} {r : Reg} {l : List Pt} (h : OPt base m n r l) {id : Nat} (hi : sid r = some id) : base ≤ id := by
  rcases h with ⟨rfl, _⟩ | ⟨id', rfl, h2, _⟩
  · cases hi
  · simp only [sid, Option.some.injEq] at hi; omega
theorem at1_mem {f : Pt → List (Bool × List Pt)} {q : List Pt} {i : Nat} {x : Bool × List Pt} (hx : x ∈ at1 f q i) : ∃ p, q[i]? = some p ∧ x ∈ f p := by
  unfold at1 at hx
  split at hx
  · exact ⟨_, by assumption, hx⟩
  · cases hx
theorem at2_mem {f : Pt → Pt → Bool × List Pt} {q : List Pt} {i j : Nat} {x : Bool × List Pt} (hx : x ∈ at2 f q i j) : ∃ p r, q[i]? = some p ∧ q[j]? = some r ∧ x = f p r := by
  unfold at2 at hx
  split at hx
  · exact ⟨_, _, by assumption, by assumption, List.mem_singleton.1 hx⟩
  · cases hx
theorem stroke_l16 (h : Int) (q : List Pt) (c : Bool) (cap : Int) : ∀ x ∈ strokeI q c h cap, x.2.length < 4294967296 := fun x hx => by
  have d16 : ∀ (i : Nat) (y : Bool × List Pt), y ∈ at1 (fun p => [discI h p]) q i → y.2.length < 4294967296 := fun i y hy => by
    obtain ⟨p, _, hy⟩ := at1_mem hy
    rw [List.mem_singleton] at hy
    subst hy
    show 16 < 4294967296; decide
  unfold strokeI at hx
  split at hx
  · split at hx
    · exact d16 _ _ hx
    · split at hx
      · obtain ⟨p, _, hx⟩ := at1_mem hx
        rw [List.mem_singleton] at hx
        subst hx
        show 4 < 4294967296; decide
      · cases hx
  · split at hx
    · rw [List.mem_append] at hx
      rcases hx with hx | hx
      · exact along_l16 h q c x hx
      · split at hx
        · cases hx
        · split at hx
          · rw [List.mem_append] at hx
            rcases hx with hx | hx
            · exact d16 _ _ hx
            · exact d16 _ _ hx
          · split at hx
            · rw [List.mem_append] at hx
              rcases hx with hx | hx
              · obtain ⟨p, r, _, _, rfl⟩ := at2_mem hx
                show 4 < 4294967296; decide
              · obtain ⟨p, r, _, _, rfl⟩ := at2_mem hx
                show 4 < 4294967296; decide
            · cases hx
    · cases hx
theorem at1_len (g : Pt → Bool × List Pt) (q : List Pt) (i : Nat) : (at1 (fun p => [g p]) q i).length ≤ 1 := by
  unfold at1; split <;> simp
theorem at2_len (f : Pt → Pt → Bool × List Pt) (q : List Pt) (i j : Nat) : (at2 f q i j).length ≤ 1 := by
  unfold at2; split <;> simp
theorem along_len (h : Int) (q : List Pt) (c : Bool) : (alongI h q c).length ≤ 2 * q.length + 1 := by
  have a := barsTo_len h q (q.length - 1)
  have b := barAt_len h q (q.length - 1) 0
  have d := discsTo_len h q c q.length
  unfold alongI
  rw [List.length_append, List.length_append]
  split <;> (try simp only [List.length_nil]) <;> omega
theorem stroke_len (h : Int) (q : List Pt) (c : Bool) (cap : Int) : (strokeI q c h cap).length ≤ 2 * q.length + 3 := by
  have a := along_len h q c
  have b := at1_len (discI h) q
  have d := at1_len (sqI h) q
  have e := at2_len (firstI h) q
  have f := at2_len (lastI h) q
  have b0 := b 0
  have bl := b (q.length - 1)
  have d0 := d 0
  have e0 := e 0 1
  have f0 := f (q.length - 2) (q.length - 1)
  unfold strokeI
  repeat' split
  all_goals (try rw [List.length_append]) <;> (try rw [List.length_append]) <;> (try simp only [List.length_nil]) <;> omega
set_option maxHeartbeats 4000000 in
theorem law4 (c0 : Cell) (l : List Pt) (c : Bool) (h cap : Int) (m : Mem) (n : Nat) (hr : RPt m n (.one c0) l) (h0n : 0 < n) (o : Bool) (hm0 : m 0 = some ⟨cosT, o⟩) : Fn TA 4 [.agg [c0, .sc (.bool c)], RI h, RI cap] m n (fun r _ _ => r = RB true) := by
  refine Fn_ofK (fn := F4) rfl (by simp [F4]) ?_
  have hlen := hr.len
  obtain ⟨M0, hM0⟩ : ∃ M0, M0 = upd m n (some ⟨[c0, .sc (.bool c)], true⟩) := ⟨_, rfl⟩
  have hr0 : RPt M0 (n + 1) (.one c0) l := hr.keep (by omega) (fun id hid => by rw [hM0]; exact upd_ne _ _ (by omega))
  have hn0 : M0 n = some ⟨[c0, .sc (.bool c)], true⟩ := by rw [hM0]; exact upd_same _ _ _
  have hz0 : M0 0 = some ⟨cosT, o⟩ := by rw [hM0, upd_ne _ _ (by omega)]; exact hm0
  by_cases g : 30 < (l.length : Int)
  · skip
    try simp only [r4_0, r4_1, r4_2, r4_3, r4_4, r4_5, r4_6, r4_7, r4_8, r4_9, r4_10, r4_11, r4_12, r4_13, r4_14, r4_15, r4_16, r4_17, r4_18, r4_19, r4_20, c4, F4, hlen, g, v_awake07, go_sem, Int.reduceTMod, Int.reduceTDiv, Int.reduceDiv, Int.reduceMod, Int.reduceAdd, Int.reduceSub, Int.reduceMul, Int.reduceNeg, Int.reducePow, Int.reduceEq, ↓reduceIte, Nat.reduceEqDiff, Nat.reduceAdd, Nat.reduceMul, Nat.reduceLeDiff, Nat.reduceSub, Nat.reduceLT, Int.reduceToNat, Int.reduceLT, Int.reduceLE, reduceCtorEq]
    repeat' ((first | refine FK_split (fun h_ => ?_) (fun h_ => ?_) | refine GK_split (fun h_ => ?_) (fun h_ => ?_) | refine ite_both (fun h_ => ?_) (fun h_ => ?_)) <;> (try simp only [decide_eq_true_eq, decide_eq_false_iff_not, Bool.not_true, Bool.not_false, Bool.not_eq_true', Bool.not_eq_false', Bool.not_eq_eq_eq_not, Decidable.not_not] at h_) <;> (try simp only [r4_0, r4_1, r4_2, r4_3, r4_4, r4_5, r4_6, r4_7, r4_8, r4_9, r4_10, r4_11, r4_12, r4_13, r4_14, r4_15, r4_16, r4_17, r4_18, r4_19, r4_20, c4, F4, hlen, g, v_awake07, h_, go_sem, Int.reduceTMod, Int.reduceTDiv, Int.reduceDiv, Int.reduceMod, Int.reduceAdd, Int.reduceSub, Int.reduceMul, Int.reduceNeg, Int.reducePow, Int.reduceEq, ↓reduceIte, Nat.reduceEqDiff, Nat.reduceAdd, Nat.reduceMul, Nat.reduceLeDiff, Nat.reduceSub, Nat.reduceLT, Int.reduceToNat, Int.reduceLT, Int.reduceLE, reduceCtorEq]))
  · skip
    try simp only [r4_0, r4_1, r4_2, r4_3, r4_4, r4_5, r4_6, r4_7, r4_8, r4_9, r4_10, r4_11, r4_12, r4_13, r4_14, r4_15, r4_16, r4_17, r4_18, r4_19, r4_20, c4, F4, hlen, g, go_sem, Int.reduceTMod, Int.reduceTDiv, Int.reduceDiv, Int.reduceMod, Int.reduceAdd, Int.reduceSub, Int.reduceMul, Int.reduceNeg, Int.reducePow, Int.reduceEq, ↓reduceIte, Nat.reduceEqDiff, Nat.reduceAdd, Nat.reduceMul, Nat.reduceLeDiff, Nat.reduceSub, Nat.reduceLT, Int.reduceToNat, Int.reduceLT, Int.reduceLE, reduceCtorEq]
    repeat' ((first | refine FK_split (fun h_ => ?_) (fun h_ => ?_) | refine GK_split (fun h_ => ?_) (fun h_ => ?_) | refine ite_both (fun h_ => ?_) (fun h_ => ?_)) <;> (try simp only [decide_eq_true_eq, decide_eq_false_iff_not, Bool.not_true, Bool.not_false, Bool.not_eq_true', Bool.not_eq_false', Bool.not_eq_eq_eq_not, Decidable.not_not] at h_) <;> (try simp only [r4_0, r4_1, r4_2, r4_3, r4_4, r4_5, r4_6, r4_7, r4_8, r4_9, r4_10, r4_11, r4_12, r4_13, r4_14, r4_15, r4_16, r4_17, r4_18, r4_19, r4_20, c4, F4, hlen, g, h_, go_sem, Int.reduceTMod, Int.reduceTDiv, Int.reduceDiv, Int.reduceMod, Int.reduceAdd, Int.reduceSub, Int.reduceMul, Int.reduceNeg, Int.reducePow, Int.reduceEq, ↓reduceIte, Nat.reduceEqDiff, Nat.reduceAdd, Nat.reduceMul, Nat.reduceLeDiff, Nat.reduceSub, Nat.reduceLT, Int.reduceToNat, Int.reduceLT, Int.reduceLE, reduceCtorEq]))
    rw [← hM0]
    refine RK_callk ?_
    refine (w_refs _ l _ _ hr0.frz (by omega)).mono ?_
    rintro r1 m1 n1 ⟨ho1, hn1⟩
    obtain ⟨M1, hM1⟩ : ∃ M1, M1 = unfrz M0 (n + 1) m1 := ⟨_, rfl⟩
    rw [← hM1, show max (n + 1) n1 = n1 by omega]
    have hr1 : RPt M1 n1 (.one c0) l := hr0.keep hn1 (fun id hid => by rw [hM1, unfrz_at, if_pos hid])
    have hx1 : RPt M1 n1 r1 l := (ho1.rl cs2).keep' (Nat.le_refl _) (fun id hid => by rw [hM1, unfrz_at, if_neg (by have := ho1.sidge hid; omega)])
    have hb1 : M1 n = some ⟨[c0, .sc (.bool c)], true⟩ := by rw [hM1, unfrz_at, if_pos (by omega)]; exact hn0
    have hz1 : M1 0 = some ⟨cosT, o⟩ := by rw [hM1, unfrz_at, if_pos (by omega)]; exact hz0
    try simp only [r4_0, r4_1, r4_2, r4_3, r4_4, r4_5, r4_6, r4_7, r4_8, r4_9, r4_10, r4_11, r4_12, r4_13, r4_14, r4_15, r4_16, r4_17, r4_18, r4_19, r4_20, c4, F4, hb1, rd_of hb1, go_sem, Int.reduceTMod, Int.reduceTDiv, Int.reduceDiv, Int.reduceMod, Int.reduceAdd, Int.reduceSub, Int.reduceMul, Int.reduceNeg, Int.reducePow, Int.reduceEq, ↓reduceIte, Nat.reduceEqDiff, Nat.reduceAdd, Nat.reduceMul, Nat.reduceLeDiff, Nat.reduceSub, Nat.reduceLT, Int.reduceToNat, Int.reduceLT, Int.reduceLE, reduceCtorEq]
    repeat' ((first | refine FK_split (fun h_ => ?_) (fun h_ => ?_) | refine GK_split (fun h_ => ?_) (fun h_ => ?_) | refine ite_both (fun h_ => ?_) (fun h_ => ?_)) <;> (try simp only [decide_eq_true_eq, decide_eq_false_iff_not, Bool.not_true, Bool.not_false, Bool.not_eq_true', Bool.not_eq_false', Bool.not_eq_eq_eq_not, Decidable.not_not] at h_) <;> (try simp only [r4_0, r4_1, r4_2, r4_3, r4_4, r4_5, r4_6, r4_7, r4_8, r4_9, r4_10, r4_11, r4_12, r4_13, r4_14, r4_15, r4_16, r4_17, r4_18, r4_19, r4_20, c4, F4, hb1, rd_of hb1, h_, go_sem, Int.reduceTMod, Int.reduceTDiv, Int.reduceDiv, Int.reduceMod, Int.reduceAdd, Int.reduceSub, Int.reduceMul, Int.reduceNeg, Int.reducePow, Int.reduceEq, ↓reduceIte, Nat.reduceEqDiff, Nat.reduceAdd, Nat.reduceMul, Nat.reduceLeDiff, Nat.reduceSub, Nat.reduceLT, Int.reduceToNat, Int.reduceLT, Int.reduceLE, reduceCtorEq]))
    refine RK_callk ?_
    refine (w_Stroke (c := c) (h := h) (cap := cap) (o := false) hr1.frz (by omega) (by omega) (by rw [frz_at, hz1]; rfl)).mono ?_
    rintro r2 m2 n2 ⟨x, k, rfl, hq1, hq2, hq3⟩
    obtain ⟨M2, hM2⟩ : ∃ M2, M2 = unfrz M1 n1 m2 := ⟨_, rfl⟩
    obtain ⟨N2, hN2⟩ : ∃ N2, N2 = max n1 n2 := ⟨_, rfl⟩
    rw [← hM2, ← hN2]
    have hn2 : n1 ≤ N2 := by omega
    have hr2 : RPt M2 N2 (.one c0) l := hr1.keep hn2 (fun id hid => by rw [hM2, unfrz_at, if_pos hid])
    have hx2 : RPt M2 N2 r1 l := hx1.keep hn2 (fun id hid => by rw [hM2, unfrz_at, if_pos hid])
    have hb2 : M2 n = some ⟨[c0, .sc (.bool c)], true⟩ := by rw [hM2, unfrz_at, if_pos (by omega)]; exact hb1
    have s2 := v_same (.one c0) r1 _ _ (frz M2) N2 hr2.frz hx2.frz (by omega)
    rw [decide_eq_true rfl] at s2
    have v1 := v_In07 r1 l (frz M2) N2 hx2.frz (by omega)
    by_cases g1 : (1 ≤ h ∧ h ≤ 32768) ∧ 0 ≤ cap ∧ cap ≤ 2
    · have gd : decide ((1 ≤ h ∧ h ≤ 32768) ∧ 0 ≤ cap ∧ cap ≤ 2) = true := decide_eq_true g1
      obtain ⟨⟨h1, h2⟩, k1, k2⟩ := g1
      have h1' : (h < 1) = False := eq_false (by omega)
      have h2' : (32768 < h) = False := eq_false (by omega)
      have h3' : (cap < 0) = False := eq_false (by omega)
      have h4' : (2 < cap) = False := eq_false (by omega)
      rw [gd, Bool.true_and] at hq1 hq2 hq3
      cases hi : l.all inP
      · obtain ⟨rfl, rfl⟩ := hq1 hi
        rw [hi] at v1
        try simp only [r4_0, r4_1, r4_2, r4_3, r4_4, r4_5, r4_6, r4_7, r4_8, r4_9, r4_10, r4_11, r4_12, r4_13, r4_14, r4_15, r4_16, r4_17, r4_18, r4_19, r4_20, c4, F4, hb2, rd_of hb2, s2, h1', h2', h3', h4', v1, v_awake07, go_sem, Int.reduceTMod, Int.reduceTDiv, Int.reduceDiv, Int.reduceMod, Int.reduceAdd, Int.reduceSub, Int.reduceMul, Int.reduceNeg, Int.reducePow, Int.reduceEq, ↓reduceIte, Nat.reduceEqDiff, Nat.reduceAdd, Nat.reduceMul, Nat.reduceLeDiff, Nat.reduceSub, Nat.reduceLT, Int.reduceToNat, Int.reduceLT, Int.reduceLE, reduceCtorEq]
        repeat' ((first | refine FK_split (fun h_ => ?_) (fun h_ => ?_) | refine GK_split (fun h_ => ?_) (fun h_ => ?_) | refine ite_both (fun h_ => ?_) (fun h_ => ?_)) <;> (try simp only [decide_eq_true_eq, decide_eq_false_iff_not, Bool.not_true, Bool.not_false, Bool.not_eq_true', Bool.not_eq_false', Bool.not_eq_eq_eq_not, Decidable.not_not] at h_) <;> (try simp only [r4_0, r4_1, r4_2, r4_3, r4_4, r4_5, r4_6, r4_7, r4_8, r4_9, r4_10, r4_11, r4_12, r4_13, r4_14, r4_15, r4_16, r4_17, r4_18, r4_19, r4_20, c4, F4, hb2, rd_of hb2, s2, h1', h2', h3', h4', v1, v_awake07, h_, go_sem, Int.reduceTMod, Int.reduceTDiv, Int.reduceDiv, Int.reduceMod, Int.reduceAdd, Int.reduceSub, Int.reduceMul, Int.reduceNeg, Int.reducePow, Int.reduceEq, ↓reduceIte, Nat.reduceEqDiff, Nat.reduceAdd, Nat.reduceMul, Nat.reduceLeDiff, Nat.reduceSub, Nat.reduceLT, Int.reduceToNat, Int.reduceLT, Int.reduceLE, reduceCtorEq]))
      · rw [hi] at v1
        try simp only [r4_0, r4_1, r4_2, r4_3, r4_4, r4_5, r4_6, r4_7, r4_8, r4_9, r4_10, r4_11, r4_12, r4_13, r4_14, r4_15, r4_16, r4_17, r4_18, r4_19, r4_20, c4, F4, hb2, rd_of hb2, s2, h1', h2', h3', h4', v1, go_sem, Int.reduceTMod, Int.reduceTDiv, Int.reduceDiv, Int.reduceMod, Int.reduceAdd, Int.reduceSub, Int.reduceMul, Int.reduceNeg, Int.reducePow, Int.reduceEq, ↓reduceIte, Nat.reduceEqDiff, Nat.reduceAdd, Nat.reduceMul, Nat.reduceLeDiff, Nat.reduceSub, Nat.reduceLT, Int.reduceToNat, Int.reduceLT, Int.reduceLE, reduceCtorEq]
        repeat' ((first | refine FK_split (fun h_ => ?_) (fun h_ => ?_) | refine GK_split (fun h_ => ?_) (fun h_ => ?_) | refine ite_both (fun h_ => ?_) (fun h_ => ?_)) <;> (try simp only [decide_eq_true_eq, decide_eq_false_iff_not, Bool.not_true, Bool.not_false, Bool.not_eq_true', Bool.not_eq_false', Bool.not_eq_eq_eq_not, Decidable.not_not] at h_) <;> (try simp only [r4_0, r4_1, r4_2, r4_3, r4_4, r4_5, r4_6, r4_7, r4_8, r4_9, r4_10, r4_11, r4_12, r4_13, r4_14, r4_15, r4_16, r4_17, r4_18, r4_19, r4_20, c4, F4, hb2, rd_of hb2, s2, h1', h2', h3', h4', v1, h_, go_sem, Int.reduceTMod, Int.reduceTDiv, Int.reduceDiv, Int.reduceMod, Int.reduceAdd, Int.reduceSub, Int.reduceMul, Int.reduceNeg, Int.reducePow, Int.reduceEq, ↓reduceIte, Nat.reduceEqDiff, Nat.reduceAdd, Nat.reduceMul, Nat.reduceLeDiff, Nat.reduceSub, Nat.reduceLT, Int.reduceToNat, Int.reduceLT, Int.reduceLE, reduceCtorEq]))
        refine RK_callk ?_
        refine (w_rStroke (c := c) hx2.frz (by omega) (by omega) h1 h2 k1 k2 hi).mono ?_
        rintro r3 m3 n3 ⟨y, rfl, hp1, hp2⟩
        obtain ⟨M3, hM3⟩ : ∃ M3, M3 = unfrz M2 N2 m3 := ⟨_, rfl⟩
        obtain ⟨N3, hN3⟩ : ∃ N3, N3 = max N2 n3 := ⟨_, rfl⟩
        rw [← hM3, ← hN3]
        cases ha : (strokeI (plainL l c) c h cap).all (·.1)
        · obtain ⟨rfl, rfl⟩ := hq2 hi ha
          try simp only [r4_0, r4_1, r4_2, r4_3, r4_4, r4_5, r4_6, r4_7, r4_8, r4_9, r4_10, r4_11, r4_12, r4_13, r4_14, r4_15, r4_16, r4_17, r4_18, r4_19, r4_20, c4, F4, v_awake07, go_sem, Int.reduceTMod, Int.reduceTDiv, Int.reduceDiv, Int.reduceMod, Int.reduceAdd, Int.reduceSub, Int.reduceMul, Int.reduceNeg, Int.reducePow, Int.reduceEq, ↓reduceIte, Nat.reduceEqDiff, Nat.reduceAdd, Nat.reduceMul, Nat.reduceLeDiff, Nat.reduceSub, Nat.reduceLT, Int.reduceToNat, Int.reduceLT, Int.reduceLE, reduceCtorEq]
          repeat' ((first | refine FK_split (fun h_ => ?_) (fun h_ => ?_) | refine GK_split (fun h_ => ?_) (fun h_ => ?_) | refine ite_both (fun h_ => ?_) (fun h_ => ?_)) <;> (try simp only [decide_eq_true_eq, decide_eq_false_iff_not, Bool.not_true, Bool.not_false, Bool.not_eq_true', Bool.not_eq_false', Bool.not_eq_eq_eq_not, Decidable.not_not] at h_) <;> (try simp only [r4_0, r4_1, r4_2, r4_3, r4_4, r4_5, r4_6, r4_7, r4_8, r4_9, r4_10, r4_11, r4_12, r4_13, r4_14, r4_15, r4_16, r4_17, r4_18, r4_19, r4_20, c4, F4, v_awake07, h_, go_sem, Int.reduceTMod, Int.reduceTDiv, Int.reduceDiv, Int.reduceMod, Int.reduceAdd, Int.reduceSub, Int.reduceMul, Int.reduceNeg, Int.reducePow, Int.reduceEq, ↓reduceIte, Nat.reduceEqDiff, Nat.reduceAdd, Nat.reduceMul, Nat.reduceLeDiff, Nat.reduceSub, Nat.reduceLT, Int.reduceToNat, Int.reduceLT, Int.reduceLE, reduceCtorEq]))
        · obtain ⟨rfl, p1, hp, hO⟩ := hq3 hi ha
          obtain ⟨p2, hp', hO'⟩ := hp2 ha
          have hln := stroke_len h (plainL l c) c cap
          have hpl := plain_len l c
          have h16 := stroke_l16 h (plainL l c) c cap
          generalize strokeI (plainL l c) c h cap = its at *
          have hA : OPs p1 p1 p1 M3 N3 x (its.map (·.2)) := hO.keep (by omega) (fun id a b _ _ => by rw [hM3, unfrz_at, if_pos (by omega), hM2, unfrz_at, if_neg (by omega)])
          have hB : OPs p2 p2 p2 M3 N3 y (its.map (·.2)) := hO'.keep (by omega) (fun id a b _ _ => by rw [hM3, unfrz_at, if_neg (by omega)])
          have hlA := hA.len
          have hlB := hB.len
          have hll : (its.map (·.2)).length < 4294967296 := by rw [List.length_map]; omega
          have hls : ∀ l ∈ its.map (·.2), l.length < 4294967296 := fun l hl => by
            obtain ⟨z, hz, rfl⟩ := List.mem_map.1 hl
            exact h16 z hz
          generalize its.map (·.2) = ls at *
          try simp only [r4_0, r4_1, r4_2, r4_3, r4_4, r4_5, r4_6, r4_7, r4_8, r4_9, r4_10, r4_11, r4_12, r4_13, r4_14, r4_15, r4_16, r4_17, r4_18, r4_19, r4_20, c4, F4, hlA, hlB, go_sem, Int.reduceTMod, Int.reduceTDiv, Int.reduceDiv, Int.reduceMod, Int.reduceAdd, Int.reduceSub, Int.reduceMul, Int.reduceNeg, Int.reducePow, Int.reduceEq, ↓reduceIte, Nat.reduceEqDiff, Nat.reduceAdd, Nat.reduceMul, Nat.reduceLeDiff, Nat.reduceSub, Nat.reduceLT, Int.reduceToNat, Int.reduceLT, Int.reduceLE, reduceCtorEq]
          repeat' ((first | refine FK_split (fun h_ => ?_) (fun h_ => ?_) | refine GK_split (fun h_ => ?_) (fun h_ => ?_) | refine ite_both (fun h_ => ?_) (fun h_ => ?_)) <;> (try simp only [decide_eq_true_eq, decide_eq_false_iff_not, Bool.not_true, Bool.not_false, Bool.not_eq_true', Bool.not_eq_false', Bool.not_eq_eq_eq_not, Decidable.not_not] at h_) <;> (try simp only [r4_0, r4_1, r4_2, r4_3, r4_4, r4_5, r4_6, r4_7, r4_8, r4_9, r4_10, r4_11, r4_12, r4_13, r4_14, r4_15, r4_16, r4_17, r4_18, r4_19, r4_20, c4, F4, hlA, hlB, h_, go_sem, Int.reduceTMod, Int.reduceTDiv, Int.reduceDiv, Int.reduceMod, Int.reduceAdd, Int.reduceSub, Int.reduceMul, Int.reduceNeg, Int.reducePow, Int.reduceEq, ↓reduceIte, Nat.reduceEqDiff, Nat.reduceAdd, Nat.reduceMul, Nat.reduceLeDiff, Nat.reduceSub, Nat.reduceLT, Int.reduceToNat, Int.reduceLT, Int.reduceLE, reduceCtorEq]))
          refine XK_iter (inv := fun i s => s.e 94 = RI i ∧ s.e 93 = RI ls.length ∧ s.e 8 = x ∧ s.e 10 = y ∧ s.m = M3 ∧ s.n = N3) ls.length
            (fun L _ => ⟨fun i hi s hs' next => ?_, fun s hs' => ?_⟩) 0 (by omega) _ ⟨?_, ?_, ?_, ?_, rfl, rfl⟩
          · obtain ⟨e, M, N⟩ := s
            obtain ⟨q94, q93, q8, q10, qm, qn⟩ := hs'
            simp only at q94 q93 q8 q10 qm qn
            subst qm
            subst qn
            have hp : ls[i]? = some ls[i] := List.getElem?_eq_getElem hi
            obtain ⟨id, b, d, hro, hid, hb, hc, hrc⟩ := hA.at hp
            obtain ⟨id', b', d', hro', hid', hb', hc', hrc'⟩ := hB.at hp
            have hsl := hls ls[i] (List.getElem_mem hi)
            have c2 : ((i : Int) < (ls.length : Int)) = True := eq_true (by omega)
            have c3 : (0 ≤ (i : Int)) = True := eq_true (by omega)
            have c7 : IntKind.i64.wrap ((i : Int) + 1) = ((i + 1 : Nat) : Int) := wr_nat (by omega)
            have vs := v_same (.one d) (.one d') _ _ (frz M) N hrc.frz hrc'.frz hsl
            rw [decide_eq_true rfl] at vs
            rw [hro] at q8
            rw [hro'] at q10
            try simp only [r4_0, r4_1, r4_2, r4_3, r4_4, r4_5, r4_6, r4_7, r4_8, r4_9, r4_10, r4_11, r4_12, r4_13, r4_14, r4_15, r4_16, r4_17, r4_18, r4_19, r4_20, c4, F4, l4_0, q94, q93, q8, q10, lenO, c2, c3, c7, hb, hc, hb', hc', vs, Int.toNat_natCast, Nat.mul_one, Nat.zero_add, go_sem, Int.reduceTMod, Int.reduceTDiv, Int.reduceDiv, Int.reduceMod, Int.reduceAdd, Int.reduceSub, Int.reduceMul, Int.reduceNeg, Int.reducePow, Int.reduceEq, ↓reduceIte, Nat.reduceEqDiff, Nat.reduceAdd, Nat.reduceMul, Nat.reduceLeDiff, Nat.reduceSub, Nat.reduceLT, Int.reduceToNat, Int.reduceLT, Int.reduceLE, reduceCtorEq]
            repeat' ((first | refine FK_split (fun h_ => ?_) (fun h_ => ?_) | refine GK_split (fun h_ => ?_) (fun h_ => ?_) | refine ite_both (fun h_ => ?_) (fun h_ => ?_)) <;> (try simp only [decide_eq_true_eq, decide_eq_false_iff_not, Bool.not_true, Bool.not_false, Bool.not_eq_true', Bool.not_eq_false', Bool.not_eq_eq_eq_not, Decidable.not_not] at h_) <;> (try simp only [r4_0, r4_1, r4_2, r4_3, r4_4, r4_5, r4_6, r4_7, r4_8, r4_9, r4_10, r4_11, r4_12, r4_13, r4_14, r4_15, r4_16, r4_17, r4_18, r4_19, r4_20, c4, F4, l4_0, q94, q93, q8, q10, lenO, c2, c3, c7, hb, hc, hb', hc', vs, Int.toNat_natCast, Nat.mul_one, Nat.zero_add, h_, go_sem, Int.reduceTMod, Int.reduceTDiv, Int.reduceDiv, Int.reduceMod, Int.reduceAdd, Int.reduceSub, Int.reduceMul, Int.reduceNeg, Int.reducePow, Int.reduceEq, ↓reduceIte, Nat.reduceEqDiff, Nat.reduceAdd, Nat.reduceMul, Nat.reduceLeDiff, Nat.reduceSub, Nat.reduceLT, Int.reduceToNat, Int.reduceLT, Int.reduceLE, reduceCtorEq]))
            refine next _ ⟨?_, ?_, ?_, ?_, rfl, rfl⟩
            · simp only [go_sem, Int.reduceTMod, Int.reduceTDiv, Int.reduceDiv, Int.reduceMod, Int.reduceAdd, Int.reduceSub, Int.reduceMul, Int.reduceNeg, Int.reducePow, Int.reduceEq, ↓reduceIte, Nat.reduceEqDiff, Nat.reduceAdd, Nat.reduceMul, Nat.reduceLeDiff, Nat.reduceSub, Nat.reduceLT, Int.reduceToNat, Int.reduceLT, Int.reduceLE, reduceCtorEq]
            · simp only [q93, go_sem, Int.reduceTMod, Int.reduceTDiv, Int.reduceDiv, Int.reduceMod, Int.reduceAdd, Int.reduceSub, Int.reduceMul, Int.reduceNeg, Int.reducePow, Int.reduceEq, ↓reduceIte, Nat.reduceEqDiff, Nat.reduceAdd, Nat.reduceMul, Nat.reduceLeDiff, Nat.reduceSub, Nat.reduceLT, Int.reduceToNat, Int.reduceLT, Int.reduceLE, reduceCtorEq]
            · simp only [q8, hro, go_sem, Int.reduceTMod, Int.reduceTDiv, Int.reduceDiv, Int.reduceMod, Int.reduceAdd, Int.reduceSub, Int.reduceMul, Int.reduceNeg, Int.reducePow, Int.reduceEq, ↓reduceIte, Nat.reduceEqDiff, Nat.reduceAdd, Nat.reduceMul, Nat.reduceLeDiff, Nat.reduceSub, Nat.reduceLT, Int.reduceToNat, Int.reduceLT, Int.reduceLE, reduceCtorEq]
            · simp only [q10, hro', go_sem, Int.reduceTMod, Int.reduceTDiv, Int.reduceDiv, Int.reduceMod, Int.reduceAdd, Int.reduceSub, Int.reduceMul, Int.reduceNeg, Int.reducePow, Int.reduceEq, ↓reduceIte, Nat.reduceEqDiff, Nat.reduceAdd, Nat.reduceMul, Nat.reduceLeDiff, Nat.reduceSub, Nat.reduceLT, Int.reduceToNat, Int.reduceLT, Int.reduceLE, reduceCtorEq]
          · obtain ⟨e, M, N⟩ := s
            obtain ⟨q94, q93, q8, q10, qm, qn⟩ := hs'
            simp only at q94 q93 q8 q10 qm qn
            have c2 : ((ls.length : Int) < (ls.length : Int)) = False := eq_false (by omega)
            try simp only [r4_0, r4_1, r4_2, r4_3, r4_4, r4_5, r4_6, r4_7, r4_8, r4_9, r4_10, r4_11, r4_12, r4_13, r4_14, r4_15, r4_16, r4_17, r4_18, r4_19, r4_20, c4, F4, l4_0, q94, q93, c2, v_awake07, go_sem, Int.reduceTMod, Int.reduceTDiv, Int.reduceDiv, Int.reduceMod, Int.reduceAdd, Int.reduceSub, Int.reduceMul, Int.reduceNeg, Int.reducePow, Int.reduceEq, ↓reduceIte, Nat.reduceEqDiff, Nat.reduceAdd, Nat.reduceMul, Nat.reduceLeDiff, Nat.reduceSub, Nat.reduceLT, Int.reduceToNat, Int.reduceLT, Int.reduceLE, reduceCtorEq]
            repeat' ((first | refine FK_split (fun h_ => ?_) (fun h_ => ?_) | refine GK_split (fun h_ => ?_) (fun h_ => ?_) | refine ite_both (fun h_ => ?_) (fun h_ => ?_)) <;> (try simp only [decide_eq_true_eq, decide_eq_false_iff_not, Bool.not_true, Bool.not_false, Bool.not_eq_true', Bool.not_eq_false', Bool.not_eq_eq_eq_not, Decidable.not_not] at h_) <;> (try simp only [r4_0, r4_1, r4_2, r4_3, r4_4, r4_5, r4_6, r4_7, r4_8, r4_9, r4_10, r4_11, r4_12, r4_13, r4_14, r4_15, r4_16, r4_17, r4_18, r4_19, r4_20, c4, F4, l4_0, q94, q93, c2, v_awake07, h_, go_sem, Int.reduceTMod, Int.reduceTDiv, Int.reduceDiv, Int.reduceMod, Int.reduceAdd, Int.reduceSub, Int.reduceMul, Int.reduceNeg, Int.reducePow, Int.reduceEq, ↓reduceIte, Nat.reduceEqDiff, Nat.reduceAdd, Nat.reduceMul, Nat.reduceLeDiff, Nat.reduceSub, Nat.reduceLT, Int.reduceToNat, Int.reduceLT, Int.reduceLE, reduceCtorEq]))
          · simp only [go_sem, Int.reduceTMod, Int.reduceTDiv, Int.reduceDiv, Int.reduceMod, Int.reduceAdd, Int.reduceSub, Int.reduceMul, Int.reduceNeg, Int.reducePow, Int.reduceEq, ↓reduceIte, Nat.reduceEqDiff, Nat.reduceAdd, Nat.reduceMul, Nat.reduceLeDiff, Nat.reduceSub, Nat.reduceLT, Int.reduceToNat, Int.reduceLT, Int.reduceLE, reduceCtorEq]
          · simp only [go_sem, Int.reduceTMod, Int.reduceTDiv, Int.reduceDiv, Int.reduceMod, Int.reduceAdd, Int.reduceSub, Int.reduceMul, Int.reduceNeg, Int.reducePow, Int.reduceEq, ↓reduceIte, Nat.reduceEqDiff, Nat.reduceAdd, Nat.reduceMul, Nat.reduceLeDiff, Nat.reduceSub, Nat.reduceLT, Int.reduceToNat, Int.reduceLT, Int.reduceLE, reduceCtorEq]
          · simp only [go_sem, Int.reduceTMod, Int.reduceTDiv, Int.reduceDiv, Int.reduceMod, Int.reduceAdd, Int.reduceSub, Int.reduceMul, Int.reduceNeg, Int.reducePow, Int.reduceEq, ↓reduceIte, Nat.reduceEqDiff, Nat.reduceAdd, Nat.reduceMul, Nat.reduceLeDiff, Nat.reduceSub, Nat.reduceLT, Int.reduceToNat, Int.reduceLT, Int.reduceLE, reduceCtorEq]
          · simp only [go_sem, Int.reduceTMod, Int.reduceTDiv, Int.reduceDiv, Int.reduceMod, Int.reduceAdd, Int.reduceSub, Int.reduceMul, Int.reduceNeg, Int.reducePow, Int.reduceEq, ↓reduceIte, Nat.reduceEqDiff, Nat.reduceAdd, Nat.reduceMul, Nat.reduceLeDiff, Nat.reduceSub, Nat.reduceLT, Int.reduceToNat, Int.reduceLT, Int.reduceLE, reduceCtorEq]
    · have gd : decide ((1 ≤ h ∧ h ≤ 32768) ∧ 0 ≤ cap ∧ cap ≤ 2) = false := decide_eq_false g1
      rw [gd, Bool.false_and] at hq1
      obtain ⟨rfl, rfl⟩ := hq1 rfl
      by_cases a1 : h < 1
      · skip
        try simp only [r4_0, r4_1, r4_2, r4_3, r4_4, r4_5, r4_6, r4_7, r4_8, r4_9, r4_10, r4_11, r4_12, r4_13, r4_14, r4_15, r4_16, r4_17, r4_18, r4_19, r4_20, c4, F4, hb2, rd_of hb2, s2, a1, v_awake07, go_sem, Int.reduceTMod, Int.reduceTDiv, Int.reduceDiv, Int.reduceMod, Int.reduceAdd, Int.reduceSub, Int.reduceMul, Int.reduceNeg, Int.reducePow, Int.reduceEq, ↓reduceIte, Nat.reduceEqDiff, Nat.reduceAdd, Nat.reduceMul, Nat.reduceLeDiff, Nat.reduceSub, Nat.reduceLT, Int.reduceToNat, Int.reduceLT, Int.reduceLE, reduceCtorEq]
        repeat' ((first | refine FK_split (fun h_ => ?_) (fun h_ => ?_) | refine GK_split (fun h_ => ?_) (fun h_ => ?_) | refine ite_both (fun h_ => ?_) (fun h_ => ?_)) <;> (try simp only [decide_eq_true_eq, decide_eq_false_iff_not, Bool.not_true, Bool.not_false, Bool.not_eq_true', Bool.not_eq_false', Bool.not_eq_eq_eq_not, Decidable.not_not] at h_) <;> (try simp only [r4_0, r4_1, r4_2, r4_3, r4_4, r4_5, r4_6, r4_7, r4_8, r4_9, r4_10, r4_11, r4_12, r4_13, r4_14, r4_15, r4_16, r4_17, r4_18, r4_19, r4_20, c4, F4, hb2, rd_of hb2, s2, a1, v_awake07, h_, go_sem, Int.reduceTMod, Int.reduceTDiv, Int.reduceDiv, Int.reduceMod, Int.reduceAdd, Int.reduceSub, Int.reduceMul, Int.reduceNeg, Int.reducePow, Int.reduceEq, ↓reduceIte, Nat.reduceEqDiff, Nat.reduceAdd, Nat.reduceMul, Nat.reduceLeDiff, Nat.reduceSub, Nat.reduceLT, Int.reduceToNat, Int.reduceLT, Int.reduceLE, reduceCtorEq]))
      · by_cases a2 : 32768 < h
        · skip
          try simp only [r4_0, r4_1, r4_2, r4_3, r4_4, r4_5, r4_6, r4_7, r4_8, r4_9, r4_10, r4_11, r4_12, r4_13, r4_14, r4_15, r4_16, r4_17, r4_18, r4_19, r4_20, c4, F4, hb2, rd_of hb2, s2, a1, a2, v_awake07, go_sem, Int.reduceTMod, Int.reduceTDiv, Int.reduceDiv, Int.reduceMod, Int.reduceAdd, Int.reduceSub, Int.reduceMul, Int.reduceNeg, Int.reducePow, Int.reduceEq, ↓reduceIte, Nat.reduceEqDiff, Nat.reduceAdd, Nat.reduceMul, Nat.reduceLeDiff, Nat.reduceSub, Nat.reduceLT, Int.reduceToNat, Int.reduceLT, Int.reduceLE, reduceCtorEq]
          repeat' ((first | refine FK_split (fun h_ => ?_) (fun h_ => ?_) | refine GK_split (fun h_ => ?_) (fun h_ => ?_) | refine ite_both (fun h_ => ?_) (fun h_ => ?_)) <;> (try simp only [decide_eq_true_eq, decide_eq_false_iff_not, Bool.not_true, Bool.not_false, Bool.not_eq_true', Bool.not_eq_false', Bool.not_eq_eq_eq_not, Decidable.not_not] at h_) <;> (try simp only [r4_0, r4_1, r4_2, r4_3, r4_4, r4_5, r4_6, r4_7, r4_8, r4_9, r4_10, r4_11, r4_12, r4_13, r4_14, r4_15, r4_16, r4_17, r4_18, r4_19, r4_20, c4, F4, hb2, rd_of hb2, s2, a1, a2, v_awake07, h_, go_sem, Int.reduceTMod, Int.reduceTDiv, Int.reduceDiv, Int.reduceMod, Int.reduceAdd, Int.reduceSub, Int.reduceMul, Int.reduceNeg, Int.reducePow, Int.reduceEq, ↓reduceIte, Nat.reduceEqDiff, Nat.reduceAdd, Nat.reduceMul, Nat.reduceLeDiff, Nat.reduceSub, Nat.reduceLT, Int.reduceToNat, Int.reduceLT, Int.reduceLE, reduceCtorEq]))
        · by_cases a3 : cap < 0
          · skip
            try simp only [r4_0, r4_1, r4_2, r4_3, r4_4, r4_5, r4_6, r4_7, r4_8, r4_9, r4_10, r4_11, r4_12, r4_13, r4_14, r4_15, r4_16, r4_17, r4_18, r4_19, r4_20, c4, F4, hb2, rd_of hb2, s2, a1, a2, a3, v_awake07, go_sem, Int.reduceTMod, Int.reduceTDiv, Int.reduceDiv, Int.reduceMod, Int.reduceAdd, Int.reduceSub, Int.reduceMul, Int.reduceNeg, Int.reducePow, Int.reduceEq, ↓reduceIte, Nat.reduceEqDiff, Nat.reduceAdd, Nat.reduceMul, Nat.reduceLeDiff, Nat.reduceSub, Nat.reduceLT, Int.reduceToNat, Int.reduceLT, Int.reduceLE, reduceCtorEq]
            repeat' ((first | refine FK_split (fun h_ => ?_) (fun h_ => ?_) | refine GK_split (fun h_ => ?_) (fun h_ => ?_) | refine ite_both (fun h_ => ?_) (fun h_ => ?_)) <;> (try simp only [decide_eq_true_eq, decide_eq_false_iff_not, Bool.not_true, Bool.not_false, Bool.not_eq_true', Bool.not_eq_false', Bool.not_eq_eq_eq_not, Decidable.not_not] at h_) <;> (try simp only [r4_0, r4_1, r4_2, r4_3, r4_4, r4_5, r4_6, r4_7, r4_8, r4_9, r4_10, r4_11, r4_12, r4_13, r4_14, r4_15, r4_16, r4_17, r4_18, r4_19, r4_20, c4, F4, hb2, rd_of hb2, s2, a1, a2, a3, v_awake07, h_, go_sem, Int.reduceTMod, Int.reduceTDiv, Int.reduceDiv, Int.reduceMod, Int.reduceAdd, Int.reduceSub, Int.reduceMul, Int.reduceNeg, Int.reducePow, Int.reduceEq, ↓reduceIte, Nat.reduceEqDiff, Nat.reduceAdd, Nat.reduceMul, Nat.reduceLeDiff, Nat.reduceSub, Nat.reduceLT, Int.reduceToNat, Int.reduceLT, Int.reduceLE, reduceCtorEq]))
          · have a4 : 2 < cap := Int.not_le.1 (fun a4 => g1 ⟨⟨by omega, by omega⟩, by omega, a4⟩)
            try simp only [r4_0, r4_1, r4_2, r4_3, r4_4, r4_5, r4_6, r4_7, r4_8, r4_9, r4_10, r4_11, r4_12, r4_13, r4_14, r4_15, r4_16, r4_17, r4_18, r4_19, r4_20, c4, F4, hb2, rd_of hb2, s2, a1, a2, a3, a4, v_awake07, go_sem, Int.reduceTMod, Int.reduceTDiv, Int.reduceDiv, Int.reduceMod, Int.reduceAdd, Int.reduceSub, Int.reduceMul, Int.reduceNeg, Int.reducePow, Int.reduceEq, ↓reduceIte, Nat.reduceEqDiff, Nat.reduceAdd, Nat.reduceMul, Nat.reduceLeDiff, Nat.reduceSub, Nat.reduceLT, Int.reduceToNat, Int.reduceLT, Int.reduceLE, reduceCtorEq]
            repeat' ((first | refine FK_split (fun h_ => ?_) (fun h_ => ?_) | refine GK_split (fun h_ => ?_) (fun h_ => ?_) | refine ite_both (fun h_ => ?_) (fun h_ => ?_)) <;> (try simp only [decide_eq_true_eq, decide_eq_false_iff_not, Bool.not_true, Bool.not_false, Bool.not_eq_true', Bool.not_eq_false', Bool.not_eq_eq_eq_not, Decidable.not_not] at h_) <;> (try simp only [r4_0, r4_1, r4_2, r4_3, r4_4, r4_5, r4_6, r4_7, r4_8, r4_9, r4_10, r4_11, r4_12, r4_13, r4_14, r4_15, r4_16, r4_17, r4_18, r4_19, r4_20, c4, F4, hb2, rd_of hb2, s2, a1, a2, a3, a4, v_awake07, h_, go_sem, Int.reduceTMod, Int.reduceTDiv, Int.reduceDiv, Int.reduceMod, Int.reduceAdd, Int.reduceSub, Int.reduceMul, Int.reduceNeg, Int.reducePow, Int.reduceEq, ↓reduceIte, Nat.reduceEqDiff, Nat.reduceAdd, Nat.reduceMul, Nat.reduceLeDiff, Nat.reduceSub, Nat.reduceLT, Int.reduceToNat, Int.reduceLT, Int.reduceLE, reduceCtorEq]))

/- Points told twice; bars of any points; near. Conditions: those that each theorem names. -/
open Go Go.Proofs
set_option linter.unusedSimpArgs false
set_option linter.unusedVariables false

/-- Records more, in a block of its own. -/
theorem K_pushL {T : Nat → Option SFun} {α : Type} {enc : α → List Cell} {sz : Nat} (hsz : ∀ x, (enc x).length = sz) (hpos : 0 < sz) {base n0 n : Nat} {m0 m : Mem} {r0 : Reg} {l ps : List α} {j by' k' : Nat} {o : Bool} {d : Option Nat} {os : List SOper} {e : Nat → Reg} {k : Kt}
    (ho : OL enc sz base m0 n0 r0 l) (hk : ps.length = k') (hk0 : 0 < k') (hn : n0 ≤ n) (hm : ∀ id, base ≤ id → id < n0 → m id = m0 id) (hj : m j = some ⟨ps.flatMap enc, o⟩) (hsm : l.length + k' ≤ 4294967296) (hbase : base ≤ n)
    (next : ∀ c m', OL enc sz base m' (n + 1) (.one c) (l ++ ps) → (∀ id, id < n → sid r0 ≠ some id → m' id = m id) → RK T os (putE e d (.one c)) m' (n + 1) k) :
    ThenK T d os e k (evApp m n sz by' r0 (.one (.sl j 0 k' (some k') sz))) := by
  subst hk
  have hp := flatMap_len enc sz hsz ps
  have hx : newsOf m sz (.one (.sl j 0 ps.length (some ps.length) sz)) = some (ps.length, ps.flatMap enc) := by
    simp only [newsOf, if_true]
    rw [rd_of hj]
    unfold rdB
    rw [if_pos (by rw [hp]; omega), List.drop_zero, ← hp, List.take_length]
    rfl
  rcases ho with ⟨rfl, rfl⟩ | ⟨id, rfl, h2, h3, h4⟩
  · simp only [evApp, hx]
    simp only [List.length_nil] at hsm
    rw [if_neg (by omega), if_pos (by omega)]
    refine next _ _ (Or.inr ⟨n, rfl, hbase, by omega, ?_⟩) (fun id hid _ => upd_ne _ _ (by omega))
    rw [upd_same]
    simp
  · have h5 : m id = some ⟨l.flatMap enc, true⟩ := by rw [hm id h2 h3]; exact h4
    have hl := flatMap_len enc sz hsz l
    have h6 : rd m id 0 (l.length * sz) = some (l.flatMap enc) := by
      rw [rd_of h5]
      unfold rdB
      rw [if_pos (by rw [hl]; omega), List.drop_zero, ← hl, List.take_length]
    simp only [evApp, hx, if_true, h5, h6, Option.map_some, true_and, if_pos hsm]
    refine next _ _ (Or.inr ⟨n, by simp, hbase, by omega, ?_⟩) (fun i hi hs => ?_)
    · rw [upd_same]; simp
    · rw [upd_ne _ _ (by omega), upd_ne _ _ (fun e => hs (by rw [e]; rfl))]
/-- Points told twice. -/
def twL : List Pt → List Pt
  | [] => []
  | p :: l => p :: p :: twL l
theorem twL_append (l l' : List Pt) : twL (l ++ l') = twL l ++ twL l' := by
  induction l with
  | nil => rfl
  | cons p l ih => simp [twL, ih]
theorem twL_len (l : List Pt) : (twL l).length = 2 * l.length := by
  induction l with
  | nil => rfl
  | cons p l ih => simp only [twL, List.length_cons, ih]; omega
theorem twL_all (l : List Pt) : (twL l).all inP = l.all inP := by
  induction l with
  | nil => rfl
  | cons p l ih => simp only [twL, List.all_cons, ih]; cases inP p <;> rfl
theorem twL_at (l : List Pt) : ∀ i, (twL l)[2 * i]? = l[i]? ∧ (twL l)[2 * i + 1]? = l[i]? := by
  induction l with
  | nil => intro i; simp [twL]
  | cons p l ih =>
    intro i
    cases i with
    | zero => simp [twL]
    | succ i =>
      rw [show 2 * (i + 1) = 2 * i + 1 + 1 by omega]
      simp only [twL, List.getElem?_cons_succ]
      exact ih i
theorem pln_tw (l : List Pt) : ∀ i, i ≤ l.length → pln (twL l) (2 * i) = pln l i
  | 0, _ => rfl
  | i + 1, hi => by
    have hp : l[i]? = some (l[i]'(by omega)) := List.getElem?_eq_getElem (by omega)
    generalize (l[i]'(by omega)) = p at hp
    obtain ⟨a1, a2⟩ := twL_at l i
    rw [show 2 * (i + 1) = 2 * i + 1 + 1 by omega, pln_skip (p := p) (a2.trans hp) (by omega) (by rw [show 2 * i + 1 - 1 = 2 * i by omega]; exact a1.trans hp)]
    by_cases h : i = 0 ∨ l[i - 1]? ≠ some p
    · rw [pln_keep hp h, pln_keep (p := p) (a1.trans hp), pln_tw l i (by omega)]
      by_cases h0 : i = 0
      · exact Or.inl (by omega)
      · rcases h with h | h
        · exact absurd h h0
        · refine Or.inr ?_
          have := (twL_at l (i - 1)).2
          rw [show 2 * (i - 1) + 1 = 2 * i - 1 by omega] at this
          rw [this]; exact h
    · have h0 : i ≠ 0 := fun e => h (Or.inl e)
      have h1 : l[i - 1]? = some p := Classical.byContradiction fun e => h (Or.inr e)
      have := (twL_at l (i - 1)).2
      rw [show 2 * (i - 1) + 1 = 2 * i - 1 by omega] at this
      rw [pln_skip hp h0 h1, pln_skip (p := p) (a1.trans hp) (by omega) (this.trans h1), pln_tw l i (by omega)]
theorem plain_tw (l : List Pt) (c : Bool) : plainL (twL l) c = plainL l c := by
  unfold plainL
  rw [twL_len, pln_tw l l.length (Nat.le_refl _)]
/-- What the pen's errors are. -/
def kkOf (its : List (Bool × List Pt)) (good : Bool) : Int := if good = true then (if its.all (·.1) = true then 0 else 10) else 30
def lsOf (its : List (Bool × List Pt)) (good : Bool) : List (List Pt) := if good = true then (if its.all (·.1) = true then its.map (·.2) else []) else []
theorem StrokeQ.uni {l : List Pt} {its : List (Bool × List Pt)} {good : Bool} {n : Nat} {r' : Reg} {m' : Mem} {n' : Nat} (h : StrokeQ l its good n r' m' n') : ∃ x, r' = .tup [x, RI (kkOf its good)] ∧ ∃ pid, n ≤ pid ∧ OPs pid pid pid m' n' x (lsOf its good) := by
  obtain ⟨x, k, rfl, h1, h2, h3⟩ := h
  unfold kkOf lsOf
  cases good
  · obtain ⟨rfl, rfl⟩ := h1 rfl
    exact ⟨_, rfl, n, Nat.le_refl _, OPs.nil⟩
  · cases ha : its.all (·.1)
    · obtain ⟨rfl, rfl⟩ := h2 rfl ha
      exact ⟨_, rfl, n, Nat.le_refl _, OPs.nil⟩
    · obtain ⟨rfl, pid, hp, hO⟩ := h3 rfl ha
      exact ⟨_, rfl, pid, hp, hO⟩
/-- A bar of any points. -/
def BarAny (a b : Pt) (h : Int) (n : Nat) (r' : Reg) (m' : Mem) (n' : Nat) : Prop := ∃ x k, r' = .tup [.one x, RI k] ∧
    (k = 0 → (inP a = true ∧ inP b = true ∧ a ≠ b ∧ 1 ≤ h ∧ h ≤ 32768 ∧ longQ a b = false ∧ (barQ a b h).all inP = true) ∧ RPt m' n' (.one x) (barQ a b h) ∧ ∀ id, sid (.one x) = some id → n ≤ id)
theorem w_BarAny (a b : Pt) (h : Int) (m : Mem) (n : Nat) : Fn TA 19 [a.r, b.r, RI h] m n (BarAny a b h n) := by
  by_cases g : (1 ≤ h ∧ h ≤ 32768) ∧ inP a = true ∧ inP b = true ∧ a ≠ b
  · obtain ⟨⟨h1, h2⟩, ha, hb, hab⟩ := g
    refine (w_Bar ha hb hab h1 h2 m n).mono ?_
    rintro r m' n' ⟨x, k, rfl, hk, hq⟩
    refine ⟨x, k, rfl, fun h0 => ?_⟩
    cases ho : (!longQ a b && (barQ a b h).all inP)
    · rw [ho] at hk; simp at hk; omega
    · have ho2 := ho
      rw [Bool.and_eq_true, Bool.not_eq_true'] at ho2
      exact ⟨⟨ha, hb, hab, h1, h2, ho2.1, ho2.2⟩, hq ho⟩
  · refine Fn_ofK (fn := F19) rfl (by simp [F19]) ?_
    have bad : ∀ m' n', BarAny a b h n (.tup [rnil, RI 30]) m' n' := fun m' n' => ⟨_, 30, rfl, fun h => absurd h (by decide)⟩
    have va := v_PIn a.x a.y
    have vb := v_PIn b.x b.y
    cases c1 : (decide (1 ≤ h) && decide (h ≤ 32768))
    · skip
      try simp only [r19_0, r19_1, r19_2, r19_3, r19_4, r19_5, r19_6, c19, F19, v_right, c1, go_sem, Int.reduceTMod, Int.reduceTDiv, Int.reduceDiv, Int.reduceMod, Int.reduceAdd, Int.reduceSub, Int.reduceMul, Int.reduceNeg, Int.reducePow, Int.reduceEq, ↓reduceIte, Nat.reduceEqDiff, Nat.reduceAdd, Nat.reduceMul, Nat.reduceLeDiff, Nat.reduceSub, Nat.reduceLT, Int.reduceToNat, Int.reduceLT, Int.reduceLE, reduceCtorEq]
      repeat' ((first | refine FK_split (fun h_ => ?_) (fun h_ => ?_) | refine GK_split (fun h_ => ?_) (fun h_ => ?_) | refine ite_both (fun h_ => ?_) (fun h_ => ?_)) <;> (try simp only [decide_eq_true_eq, decide_eq_false_iff_not, Bool.not_true, Bool.not_false, Bool.not_eq_true', Bool.not_eq_false', Bool.not_eq_eq_eq_not, Decidable.not_not] at h_) <;> (try simp only [r19_0, r19_1, r19_2, r19_3, r19_4, r19_5, r19_6, c19, F19, v_right, c1, h_, go_sem, Int.reduceTMod, Int.reduceTDiv, Int.reduceDiv, Int.reduceMod, Int.reduceAdd, Int.reduceSub, Int.reduceMul, Int.reduceNeg, Int.reducePow, Int.reduceEq, ↓reduceIte, Nat.reduceEqDiff, Nat.reduceAdd, Nat.reduceMul, Nat.reduceLeDiff, Nat.reduceSub, Nat.reduceLT, Int.reduceToNat, Int.reduceLT, Int.reduceLE, reduceCtorEq]))
      exact bad _ _
    · have d1 : 1 ≤ h ∧ h ≤ 32768 := by simpa using c1
      cases c2 : inP ⟨a.x, a.y⟩
      · skip
        try simp only [r19_0, r19_1, r19_2, r19_3, r19_4, r19_5, r19_6, c19, F19, v_right, c1, va, c2, go_sem, Int.reduceTMod, Int.reduceTDiv, Int.reduceDiv, Int.reduceMod, Int.reduceAdd, Int.reduceSub, Int.reduceMul, Int.reduceNeg, Int.reducePow, Int.reduceEq, ↓reduceIte, Nat.reduceEqDiff, Nat.reduceAdd, Nat.reduceMul, Nat.reduceLeDiff, Nat.reduceSub, Nat.reduceLT, Int.reduceToNat, Int.reduceLT, Int.reduceLE, reduceCtorEq]
        repeat' ((first | refine FK_split (fun h_ => ?_) (fun h_ => ?_) | refine GK_split (fun h_ => ?_) (fun h_ => ?_) | refine ite_both (fun h_ => ?_) (fun h_ => ?_)) <;> (try simp only [decide_eq_true_eq, decide_eq_false_iff_not, Bool.not_true, Bool.not_false, Bool.not_eq_true', Bool.not_eq_false', Bool.not_eq_eq_eq_not, Decidable.not_not] at h_) <;> (try simp only [r19_0, r19_1, r19_2, r19_3, r19_4, r19_5, r19_6, c19, F19, v_right, c1, va, c2, h_, go_sem, Int.reduceTMod, Int.reduceTDiv, Int.reduceDiv, Int.reduceMod, Int.reduceAdd, Int.reduceSub, Int.reduceMul, Int.reduceNeg, Int.reducePow, Int.reduceEq, ↓reduceIte, Nat.reduceEqDiff, Nat.reduceAdd, Nat.reduceMul, Nat.reduceLeDiff, Nat.reduceSub, Nat.reduceLT, Int.reduceToNat, Int.reduceLT, Int.reduceLE, reduceCtorEq]))
        exact bad _ _
      · cases c3 : inP ⟨b.x, b.y⟩
        · skip
          try simp only [r19_0, r19_1, r19_2, r19_3, r19_4, r19_5, r19_6, c19, F19, v_right, c1, va, c2, vb, c3, go_sem, Int.reduceTMod, Int.reduceTDiv, Int.reduceDiv, Int.reduceMod, Int.reduceAdd, Int.reduceSub, Int.reduceMul, Int.reduceNeg, Int.reducePow, Int.reduceEq, ↓reduceIte, Nat.reduceEqDiff, Nat.reduceAdd, Nat.reduceMul, Nat.reduceLeDiff, Nat.reduceSub, Nat.reduceLT, Int.reduceToNat, Int.reduceLT, Int.reduceLE, reduceCtorEq]
          repeat' ((first | refine FK_split (fun h_ => ?_) (fun h_ => ?_) | refine GK_split (fun h_ => ?_) (fun h_ => ?_) | refine ite_both (fun h_ => ?_) (fun h_ => ?_)) <;> (try simp only [decide_eq_true_eq, decide_eq_false_iff_not, Bool.not_true, Bool.not_false, Bool.not_eq_true', Bool.not_eq_false', Bool.not_eq_eq_eq_not, Decidable.not_not] at h_) <;> (try simp only [r19_0, r19_1, r19_2, r19_3, r19_4, r19_5, r19_6, c19, F19, v_right, c1, va, c2, vb, c3, h_, go_sem, Int.reduceTMod, Int.reduceTDiv, Int.reduceDiv, Int.reduceMod, Int.reduceAdd, Int.reduceSub, Int.reduceMul, Int.reduceNeg, Int.reducePow, Int.reduceEq, ↓reduceIte, Nat.reduceEqDiff, Nat.reduceAdd, Nat.reduceMul, Nat.reduceLeDiff, Nat.reduceSub, Nat.reduceLT, Int.reduceToNat, Int.reduceLT, Int.reduceLE, reduceCtorEq]))
          exact bad _ _
        · have hab : a = b := Classical.byContradiction fun e => g ⟨d1, c2, c3, e⟩
          have he := pt_eb hab
          try simp only [r19_0, r19_1, r19_2, r19_3, r19_4, r19_5, r19_6, c19, F19, v_right, c1, va, c2, vb, c3, he, go_sem, Int.reduceTMod, Int.reduceTDiv, Int.reduceDiv, Int.reduceMod, Int.reduceAdd, Int.reduceSub, Int.reduceMul, Int.reduceNeg, Int.reducePow, Int.reduceEq, ↓reduceIte, Nat.reduceEqDiff, Nat.reduceAdd, Nat.reduceMul, Nat.reduceLeDiff, Nat.reduceSub, Nat.reduceLT, Int.reduceToNat, Int.reduceLT, Int.reduceLE, reduceCtorEq]
          repeat' ((first | refine FK_split (fun h_ => ?_) (fun h_ => ?_) | refine GK_split (fun h_ => ?_) (fun h_ => ?_) | refine ite_both (fun h_ => ?_) (fun h_ => ?_)) <;> (try simp only [decide_eq_true_eq, decide_eq_false_iff_not, Bool.not_true, Bool.not_false, Bool.not_eq_true', Bool.not_eq_false', Bool.not_eq_eq_eq_not, Decidable.not_not] at h_) <;> (try simp only [r19_0, r19_1, r19_2, r19_3, r19_4, r19_5, r19_6, c19, F19, v_right, c1, va, c2, vb, c3, he, h_, go_sem, Int.reduceTMod, Int.reduceTDiv, Int.reduceDiv, Int.reduceMod, Int.reduceAdd, Int.reduceSub, Int.reduceMul, Int.reduceNeg, Int.reducePow, Int.reduceEq, ↓reduceIte, Nat.reduceEqDiff, Nat.reduceAdd, Nat.reduceMul, Nat.reduceLeDiff, Nat.reduceSub, Nat.reduceLT, Int.reduceToNat, Int.reduceLT, Int.reduceLE, reduceCtorEq]))
          exact bad _ _
theorem v_near (p q : Pt) (hx : -1 ≤ p.x - q.x ∧ p.x - q.x ≤ 1) (hy : -1 ≤ p.y - q.y ∧ p.y - q.y ≤ 1) (m : Mem) (n : Nat) : callF TA 20 [.agg [I p.x, I p.y], .agg [I q.x, I q.y]] m n = some (RB true) := by
  have a1 : IntKind.i64.wrap (p.x - q.x) = p.x - q.x := wr_eq (by omega) (by omega)
  have a2 : IntKind.i64.wrap (q.x - p.x) = q.x - p.x := wr_eq (by omega) (by omega)
  have a3 : IntKind.i64.wrap (p.y - q.y) = p.y - q.y := wr_eq (by omega) (by omega)
  have a4 : IntKind.i64.wrap (q.y - p.y) = q.y - p.y := wr_eq (by omega) (by omega)
  have b1 : (p.x - q.x ≤ 1) = True := eq_true (by omega)
  have b2 : (q.x - p.x ≤ 1) = True := eq_true (by omega)
  have b3 : (p.y - q.y ≤ 1) = True := eq_true (by omega)
  have b4 : (q.y - p.y ≤ 1) = True := eq_true (by omega)
  refine callF_of (Fn_ofK (fn := F20) rfl (by simp [F20]) ?_)
  try simp only [r20_0, r20_1, c20, F20, a1, a2, a3, a4, b1, b2, b3, b4, go_sem, Int.reduceTMod, Int.reduceTDiv, Int.reduceDiv, Int.reduceMod, Int.reduceAdd, Int.reduceSub, Int.reduceMul, Int.reduceNeg, Int.reducePow, Int.reduceEq, ↓reduceIte, Nat.reduceEqDiff, Nat.reduceAdd, Nat.reduceMul, Nat.reduceLeDiff, Nat.reduceSub, Nat.reduceLT, Int.reduceToNat, Int.reduceLT, Int.reduceLE, reduceCtorEq]
  repeat' ((first | refine FK_split (fun h_ => ?_) (fun h_ => ?_) | refine GK_split (fun h_ => ?_) (fun h_ => ?_) | refine ite_both (fun h_ => ?_) (fun h_ => ?_)) <;> (try simp only [decide_eq_true_eq, decide_eq_false_iff_not, Bool.not_true, Bool.not_false, Bool.not_eq_true', Bool.not_eq_false', Bool.not_eq_eq_eq_not, Decidable.not_not] at h_) <;> (try simp only [r20_0, r20_1, c20, F20, a1, a2, a3, a4, b1, b2, b3, b4, h_, go_sem, Int.reduceTMod, Int.reduceTDiv, Int.reduceDiv, Int.reduceMod, Int.reduceAdd, Int.reduceSub, Int.reduceMul, Int.reduceNeg, Int.reducePow, Int.reduceEq, ↓reduceIte, Nat.reduceEqDiff, Nat.reduceAdd, Nat.reduceMul, Nat.reduceLeDiff, Nat.reduceSub, Nat.reduceLT, Int.reduceToNat, Int.reduceLT, Int.reduceLE, reduceCtorEq]))
theorem rnd_neg {x d : Int} (hd : 0 < d) : 0 ≤ rnd x d + rnd (-x) d ∧ rnd x d + rnd (-x) d ≤ 1 := by
  unfold rnd
  have h1 := Int.mul_ediv_add_emod (2 * x + d) (2 * d)
  have h2 := Int.mul_ediv_add_emod (2 * -x + d) (2 * d)
  have a1 := Int.emod_nonneg (2 * x + d) (show 2 * d ≠ 0 by omega)
  have a2 := Int.emod_lt_of_pos (2 * x + d) (show 0 < 2 * d by omega)
  have b1 := Int.emod_nonneg (2 * -x + d) (show 2 * d ≠ 0 by omega)
  have b2 := Int.emod_lt_of_pos (2 * -x + d) (show 0 < 2 * d by omega)
  generalize (2 * x + d) / (2 * d) = u at *
  generalize (2 * -x + d) / (2 * d) = v at *
  have e : 2 * d * (u + v) = 2 * d * u + 2 * d * v := Int.mul_add _ _ _
  constructor
  · rcases Int.lt_or_le (u + v) 0 with h | h
    · have := Int.mul_le_mul_of_nonneg_left (show u + v ≤ -1 by omega) (show 0 ≤ 2 * d by omega)
      omega
    · exact h
  · rcases Int.lt_or_le 1 (u + v) with h | h
    · have := Int.mul_le_mul_of_nonneg_left (show 2 ≤ u + v by omega) (show 0 ≤ 2 * d by omega)
      omega
    · exact h
theorem sN_pos {x y : Int} (hl : longB x y = false) (hne : x ≠ 0 ∨ y ≠ 0) : 0 < sN x y := (step_bd (h := 1) hl hne (by decide) (by decide)).1.1
theorem step_h {x y h : Int} (hl : longB x y = false) (hne : x ≠ 0 ∨ y ≠ 0) (h0 : 0 ≤ h) (z : Int) (hz : z = x ∨ z = y ∨ z = -y) : -h ≤ rnd (z * h) (sN x y) ∧ rnd (z * h) (sN x y) ≤ h := by
  have sq := sq_bd hl
  have hn : 0 ≤ x * x + y * y := by omega
  have hx := le_isq (z := x) hn (by omega)
  have hy := le_isq (z := y) hn (by omega)
  have hN := sN_pos hl hne
  have hzN : -sN x y ≤ z ∧ z ≤ sN x y := by unfold sN; rcases hz with rfl | rfl | rfl <;> omega
  have k1 : z * h ≤ h * sN x y := by rw [Int.mul_comm h]; exact Int.mul_le_mul_of_nonneg_right hzN.2 (by omega)
  have k2 : -h * sN x y ≤ z * h := by
    have := Int.mul_le_mul_of_nonneg_right hzN.1 (show 0 ≤ h by omega)
    rw [Int.neg_mul, Int.mul_comm] at this
    rw [Int.neg_mul]
    exact this
  exact ⟨rnd_ge (x := z * h) (d := sN x y) (b := -h) (by omega) k2, rnd_le (x := z * h) (d := sN x y) (b := h) (by omega) k1⟩

/- The law StrokeBack walked. Conditions: those that each theorem names. -/
open Go Go.Proofs
set_option linter.unusedSimpArgs false
set_option linter.unusedVariables false

theorem barQ_near (a b : Pt) (h : Int) (hab : a ≠ b) (hl : longQ a b = false) (i : Nat) (p q : Pt) (hp : (barQ a b h)[i]? = some p) (hq : (barQ b a h)[(i + 2) % 4]? = some q) : (-1 ≤ p.x - q.x ∧ p.x - q.x ≤ 1) ∧ -1 ≤ p.y - q.y ∧ p.y - q.y ≤ 1 := by
  have hs : 0 < sN (b.x - a.x) (b.y - a.y) := sN_pos hl (pt_sub hab)
  have e : sN (a.x - b.x) (a.y - b.y) = sN (b.x - a.x) (b.y - a.y) := by
    unfold sN
    congr 1
    grind
  have h1 : (sdQ b a h) = ⟨rnd (-(-(b.y - a.y) * h)) (sN (b.x - a.x) (b.y - a.y)), rnd (-((b.x - a.x) * h)) (sN (b.x - a.x) (b.y - a.y))⟩ := by
    show sdP (a.x - b.x) (a.y - b.y) h = _
    unfold sdP
    rw [e]
    congr 2 <;> grind
  have h2 : (sdQ a b h) = ⟨rnd (-(b.y - a.y) * h) (sN (b.x - a.x) (b.y - a.y)), rnd ((b.x - a.x) * h) (sN (b.x - a.x) (b.y - a.y))⟩ := rfl
  have r1 := rnd_neg (x := -(b.y - a.y) * h) hs
  have r2 := rnd_neg (x := (b.x - a.x) * h) hs
  unfold barQ at hp hq
  rw [h2] at hp
  rw [h1] at hq
  have hi : i < 4 := by
    have := (List.getElem?_eq_some_iff.1 hp).1
    exact this
  generalize rnd (-(b.y - a.y) * h) (sN (b.x - a.x) (b.y - a.y)) = u1 at *
  generalize rnd (-(-(b.y - a.y) * h)) (sN (b.x - a.x) (b.y - a.y)) = u2 at *
  generalize rnd ((b.x - a.x) * h) (sN (b.x - a.x) (b.y - a.y)) = v1 at *
  generalize rnd (-((b.x - a.x) * h)) (sN (b.x - a.x) (b.y - a.y)) = v2 at *
  rcases (show i = 0 ∨ i = 1 ∨ i = 2 ∨ i = 3 by omega) with rfl | rfl | rfl | rfl <;>
    (simp [lsP, plP] at hp hq; subst hp; subst hq; simp only; omega)
theorem lsOf_len (its : List (Bool × List Pt)) (good : Bool) : (lsOf its good).length ≤ its.length := by
  unfold lsOf
  split
  · split
    · simp
    · simp
  · simp
theorem lsOf_l16 {its : List (Bool × List Pt)} (h : ∀ x ∈ its, x.2.length < 4294967296) (good : Bool) : ∀ l ∈ lsOf its good, l.length < 4294967296 := by
  unfold lsOf
  intro l hl
  split at hl
  · split at hl
    · obtain ⟨z, hz, rfl⟩ := List.mem_map.1 hl
      exact h z hz
    · cases hl
  · cases hl
set_option maxHeartbeats 4000000 in
theorem law5 (c0 : Cell) (l : List Pt) (c : Bool) (h cap : Int) (m : Mem) (n : Nat) (hr : RPt m n (.one c0) l) (h0n : 0 < n) (o : Bool) (hm0 : m 0 = some ⟨cosT, o⟩) : Fn TA 5 [.agg [c0, .sc (.bool c)], RI h, RI cap] m n (fun r _ _ => r = RB true) := by
  refine Fn_ofK (fn := F5) rfl (by simp [F5]) ?_
  have hlen := hr.len
  obtain ⟨M0, hM0⟩ : ∃ M0, M0 = upd m n (some ⟨[c0, .sc (.bool c)], true⟩) := ⟨_, rfl⟩
  have hr0 : RPt M0 (n + 1) (.one c0) l := hr.keep (by omega) (fun id hid => by rw [hM0]; exact upd_ne _ _ (by omega))
  have hn0 : M0 n = some ⟨[c0, .sc (.bool c)], true⟩ := by rw [hM0]; exact upd_same _ _ _
  have hz0 : M0 0 = some ⟨cosT, o⟩ := by rw [hM0, upd_ne _ _ (by omega)]; exact hm0
  by_cases g : 20 < (l.length : Int)
  · skip
    try simp only [r5_0, r5_1, r5_2, r5_3, r5_4, r5_5, r5_6, r5_7, r5_8, r5_9, r5_10, r5_11, r5_12, r5_13, r5_14, r5_15, r5_16, r5_17, r5_18, r5_19, r5_20, r5_21, r5_22, r5_23, r5_24, r5_25, c5, F5, hlen, g, v_awake07, go_sem, Int.reduceTMod, Int.reduceTDiv, Int.reduceDiv, Int.reduceMod, Int.reduceAdd, Int.reduceSub, Int.reduceMul, Int.reduceNeg, Int.reducePow, Int.reduceEq, ↓reduceIte, Nat.reduceEqDiff, Nat.reduceAdd, Nat.reduceMul, Nat.reduceLeDiff, Nat.reduceSub, Nat.reduceLT, Int.reduceToNat, Int.reduceLT, Int.reduceLE, reduceCtorEq]
    repeat' ((first | refine FK_split (fun h_ => ?_) (fun h_ => ?_) | refine GK_split (fun h_ => ?_) (fun h_ => ?_) | refine ite_both (fun h_ => ?_) (fun h_ => ?_)) <;> (try simp only [decide_eq_true_eq, decide_eq_false_iff_not, Bool.not_true, Bool.not_false, Bool.not_eq_true', Bool.not_eq_false', Bool.not_eq_eq_eq_not, Decidable.not_not] at h_) <;> (try simp only [r5_0, r5_1, r5_2, r5_3, r5_4, r5_5, r5_6, r5_7, r5_8, r5_9, r5_10, r5_11, r5_12, r5_13, r5_14, r5_15, r5_16, r5_17, r5_18, r5_19, r5_20, r5_21, r5_22, r5_23, r5_24, r5_25, c5, F5, hlen, g, v_awake07, h_, go_sem, Int.reduceTMod, Int.reduceTDiv, Int.reduceDiv, Int.reduceMod, Int.reduceAdd, Int.reduceSub, Int.reduceMul, Int.reduceNeg, Int.reducePow, Int.reduceEq, ↓reduceIte, Nat.reduceEqDiff, Nat.reduceAdd, Nat.reduceMul, Nat.reduceLeDiff, Nat.reduceSub, Nat.reduceLT, Int.reduceToNat, Int.reduceLT, Int.reduceLE, reduceCtorEq]))
  · have z0 := na_0 h0n
    try simp only [r5_0, r5_1, r5_2, r5_3, r5_4, r5_5, r5_6, r5_7, r5_8, r5_9, r5_10, r5_11, r5_12, r5_13, r5_14, r5_15, r5_16, r5_17, r5_18, r5_19, r5_20, r5_21, r5_22, r5_23, r5_24, r5_25, c5, F5, hlen, g, go_sem, Int.reduceTMod, Int.reduceTDiv, Int.reduceDiv, Int.reduceMod, Int.reduceAdd, Int.reduceSub, Int.reduceMul, Int.reduceNeg, Int.reducePow, Int.reduceEq, ↓reduceIte, Nat.reduceEqDiff, Nat.reduceAdd, Nat.reduceMul, Nat.reduceLeDiff, Nat.reduceSub, Nat.reduceLT, Int.reduceToNat, Int.reduceLT, Int.reduceLE, reduceCtorEq]
    repeat' ((first | refine FK_split (fun h_ => ?_) (fun h_ => ?_) | refine GK_split (fun h_ => ?_) (fun h_ => ?_) | refine ite_both (fun h_ => ?_) (fun h_ => ?_)) <;> (try simp only [decide_eq_true_eq, decide_eq_false_iff_not, Bool.not_true, Bool.not_false, Bool.not_eq_true', Bool.not_eq_false', Bool.not_eq_eq_eq_not, Decidable.not_not] at h_) <;> (try simp only [r5_0, r5_1, r5_2, r5_3, r5_4, r5_5, r5_6, r5_7, r5_8, r5_9, r5_10, r5_11, r5_12, r5_13, r5_14, r5_15, r5_16, r5_17, r5_18, r5_19, r5_20, r5_21, r5_22, r5_23, r5_24, r5_25, c5, F5, hlen, g, h_, go_sem, Int.reduceTMod, Int.reduceTDiv, Int.reduceDiv, Int.reduceMod, Int.reduceAdd, Int.reduceSub, Int.reduceMul, Int.reduceNeg, Int.reducePow, Int.reduceEq, ↓reduceIte, Nat.reduceEqDiff, Nat.reduceAdd, Nat.reduceMul, Nat.reduceLeDiff, Nat.reduceSub, Nat.reduceLT, Int.reduceToNat, Int.reduceLT, Int.reduceLE, reduceCtorEq]))
    rw [← hM0]
    refine XK_iter (inv := fun i s => s.e 30 = RI i ∧ s.e 29 = RI l.length ∧ s.e 28 = .one c0 ∧ s.e 3 = .one (.ptr n 0) ∧ s.e 7 = .one (.ptr (n + 1) 0) ∧ s.e 1 = RI h ∧ s.e 2 = RI cap ∧ n + 2 ≤ s.n ∧ (∀ id, id < n + 1 → s.m id = M0 id) ∧
        ∃ x, s.m (n + 1) = some ⟨[x, .sc (.bool c)], true⟩ ∧ OPt (n + 2) s.m s.n (.one x) (twL (l.take i))) l.length
      (fun L _ => ⟨fun i hi s hs' next => ?_, fun s hs' => ?_⟩) 0 (by omega) _ ⟨?_, ?_, ?_, ?_, ?_, ?_, ?_, ?_, ?_, _, ?_, OL.nil⟩
    · obtain ⟨e, M, N⟩ := s
      obtain ⟨q30, q29, q28, q3, q7, q1, q2, qn, qm, x, qx, qo⟩ := hs'
      simp only at q30 q29 q28 q3 q7 q1 q2 qn qm qx qo
      have hp : l[i]? = some l[i] := List.getElem?_eq_getElem hi
      have hr2 : RPt M N (.one c0) l := hr0.keep (by omega) qm
      obtain ⟨id, off, cap', hr1, hid, hrd⟩ := hr2.at cs2 hp
      generalize l[i] = p at *
      have c2 : ((i : Int) < (l.length : Int)) = True := eq_true (by omega)
      have c3 : (0 ≤ (i : Int)) = True := eq_true (by omega)
      have c7 : IntKind.i64.wrap ((i : Int) + 1) = ((i + 1 : Nat) : Int) := wr_nat (by omega)
      rw [hr1] at q28
      have n1 := na_0 hid
      have n2 := na_0 (show n + 1 < N by omega)
      try simp only [r5_0, r5_1, r5_2, r5_3, r5_4, r5_5, r5_6, r5_7, r5_8, r5_9, r5_10, r5_11, r5_12, r5_13, r5_14, r5_15, r5_16, r5_17, r5_18, r5_19, r5_20, r5_21, r5_22, r5_23, r5_24, r5_25, c5, F5, l5_0, l5_1, q30, q29, q28, q7, c2, c3, c7, hrd, n1, n2, qx, rd_of qx, Int.toNat_natCast, go_sem, Int.reduceTMod, Int.reduceTDiv, Int.reduceDiv, Int.reduceMod, Int.reduceAdd, Int.reduceSub, Int.reduceMul, Int.reduceNeg, Int.reducePow, Int.reduceEq, ↓reduceIte, Nat.reduceEqDiff, Nat.reduceAdd, Nat.reduceMul, Nat.reduceLeDiff, Nat.reduceSub, Nat.reduceLT, Int.reduceToNat, Int.reduceLT, Int.reduceLE, reduceCtorEq]
      repeat' ((first | refine FK_split (fun h_ => ?_) (fun h_ => ?_) | refine GK_split (fun h_ => ?_) (fun h_ => ?_) | refine ite_both (fun h_ => ?_) (fun h_ => ?_)) <;> (try simp only [decide_eq_true_eq, decide_eq_false_iff_not, Bool.not_true, Bool.not_false, Bool.not_eq_true', Bool.not_eq_false', Bool.not_eq_eq_eq_not, Decidable.not_not] at h_) <;> (try simp only [r5_0, r5_1, r5_2, r5_3, r5_4, r5_5, r5_6, r5_7, r5_8, r5_9, r5_10, r5_11, r5_12, r5_13, r5_14, r5_15, r5_16, r5_17, r5_18, r5_19, r5_20, r5_21, r5_22, r5_23, r5_24, r5_25, c5, F5, l5_0, l5_1, q30, q29, q28, q7, c2, c3, c7, hrd, n1, n2, qx, rd_of qx, Int.toNat_natCast, h_, go_sem, Int.reduceTMod, Int.reduceTDiv, Int.reduceDiv, Int.reduceMod, Int.reduceAdd, Int.reduceSub, Int.reduceMul, Int.reduceNeg, Int.reducePow, Int.reduceEq, ↓reduceIte, Nat.reduceEqDiff, Nat.reduceAdd, Nat.reduceMul, Nat.reduceLeDiff, Nat.reduceSub, Nat.reduceLT, Int.reduceToNat, Int.reduceLT, Int.reduceLE, reduceCtorEq]))
      refine K_pushL cs2 (by decide) (ps := [p, p]) (o := true) qo rfl (by decide) (by omega) (fun id h1 h2 => by rw [upd_ne _ _ (by omega), upd_ne _ _ (by omega), upd_ne _ _ (by omega)]) (by rw [upd_same]; rfl) (by rw [twL_len, List.length_take]; omega) (by omega) ?_
      intro c1 m' ho h2
      have hne : sid (.one x) ≠ some (n + 1) := fun e => by have := qo.sidge e; omega
      have hx2 : m' (n + 1) = some ⟨[x, .sc (.bool c)], true⟩ := by rw [h2 _ (by omega) hne, upd_ne _ _ (by omega), upd_ne _ _ (by omega), upd_ne _ _ (by omega)]; exact qx
      try simp only [r5_0, r5_1, r5_2, r5_3, r5_4, r5_5, r5_6, r5_7, r5_8, r5_9, r5_10, r5_11, r5_12, r5_13, r5_14, r5_15, r5_16, r5_17, r5_18, r5_19, r5_20, r5_21, r5_22, r5_23, r5_24, r5_25, c5, F5, l5_0, l5_1, q30, q7, c7, hx2, rd_of hx2, go_sem, Int.reduceTMod, Int.reduceTDiv, Int.reduceDiv, Int.reduceMod, Int.reduceAdd, Int.reduceSub, Int.reduceMul, Int.reduceNeg, Int.reducePow, Int.reduceEq, ↓reduceIte, Nat.reduceEqDiff, Nat.reduceAdd, Nat.reduceMul, Nat.reduceLeDiff, Nat.reduceSub, Nat.reduceLT, Int.reduceToNat, Int.reduceLT, Int.reduceLE, reduceCtorEq]
      repeat' ((first | refine FK_split (fun h_ => ?_) (fun h_ => ?_) | refine GK_split (fun h_ => ?_) (fun h_ => ?_) | refine ite_both (fun h_ => ?_) (fun h_ => ?_)) <;> (try simp only [decide_eq_true_eq, decide_eq_false_iff_not, Bool.not_true, Bool.not_false, Bool.not_eq_true', Bool.not_eq_false', Bool.not_eq_eq_eq_not, Decidable.not_not] at h_) <;> (try simp only [r5_0, r5_1, r5_2, r5_3, r5_4, r5_5, r5_6, r5_7, r5_8, r5_9, r5_10, r5_11, r5_12, r5_13, r5_14, r5_15, r5_16, r5_17, r5_18, r5_19, r5_20, r5_21, r5_22, r5_23, r5_24, r5_25, c5, F5, l5_0, l5_1, q30, q7, c7, hx2, rd_of hx2, h_, go_sem, Int.reduceTMod, Int.reduceTDiv, Int.reduceDiv, Int.reduceMod, Int.reduceAdd, Int.reduceSub, Int.reduceMul, Int.reduceNeg, Int.reducePow, Int.reduceEq, ↓reduceIte, Nat.reduceEqDiff, Nat.reduceAdd, Nat.reduceMul, Nat.reduceLeDiff, Nat.reduceSub, Nat.reduceLT, Int.reduceToNat, Int.reduceLT, Int.reduceLE, reduceCtorEq]))
      refine next _ ⟨?_, ?_, ?_, ?_, ?_, ?_, ?_, ?_, ?_, c1, ?_, ?_⟩
      · simp only [go_sem, Int.reduceTMod, Int.reduceTDiv, Int.reduceDiv, Int.reduceMod, Int.reduceAdd, Int.reduceSub, Int.reduceMul, Int.reduceNeg, Int.reducePow, Int.reduceEq, ↓reduceIte, Nat.reduceEqDiff, Nat.reduceAdd, Nat.reduceMul, Nat.reduceLeDiff, Nat.reduceSub, Nat.reduceLT, Int.reduceToNat, Int.reduceLT, Int.reduceLE, reduceCtorEq]
      · simp only [q29, go_sem, Int.reduceTMod, Int.reduceTDiv, Int.reduceDiv, Int.reduceMod, Int.reduceAdd, Int.reduceSub, Int.reduceMul, Int.reduceNeg, Int.reducePow, Int.reduceEq, ↓reduceIte, Nat.reduceEqDiff, Nat.reduceAdd, Nat.reduceMul, Nat.reduceLeDiff, Nat.reduceSub, Nat.reduceLT, Int.reduceToNat, Int.reduceLT, Int.reduceLE, reduceCtorEq]
      · simp only [q28, hr1, go_sem, Int.reduceTMod, Int.reduceTDiv, Int.reduceDiv, Int.reduceMod, Int.reduceAdd, Int.reduceSub, Int.reduceMul, Int.reduceNeg, Int.reducePow, Int.reduceEq, ↓reduceIte, Nat.reduceEqDiff, Nat.reduceAdd, Nat.reduceMul, Nat.reduceLeDiff, Nat.reduceSub, Nat.reduceLT, Int.reduceToNat, Int.reduceLT, Int.reduceLE, reduceCtorEq]
      · simp only [q3, go_sem, Int.reduceTMod, Int.reduceTDiv, Int.reduceDiv, Int.reduceMod, Int.reduceAdd, Int.reduceSub, Int.reduceMul, Int.reduceNeg, Int.reducePow, Int.reduceEq, ↓reduceIte, Nat.reduceEqDiff, Nat.reduceAdd, Nat.reduceMul, Nat.reduceLeDiff, Nat.reduceSub, Nat.reduceLT, Int.reduceToNat, Int.reduceLT, Int.reduceLE, reduceCtorEq]
      · simp only [q7, go_sem, Int.reduceTMod, Int.reduceTDiv, Int.reduceDiv, Int.reduceMod, Int.reduceAdd, Int.reduceSub, Int.reduceMul, Int.reduceNeg, Int.reducePow, Int.reduceEq, ↓reduceIte, Nat.reduceEqDiff, Nat.reduceAdd, Nat.reduceMul, Nat.reduceLeDiff, Nat.reduceSub, Nat.reduceLT, Int.reduceToNat, Int.reduceLT, Int.reduceLE, reduceCtorEq]
      · simp only [q1, go_sem, Int.reduceTMod, Int.reduceTDiv, Int.reduceDiv, Int.reduceMod, Int.reduceAdd, Int.reduceSub, Int.reduceMul, Int.reduceNeg, Int.reducePow, Int.reduceEq, ↓reduceIte, Nat.reduceEqDiff, Nat.reduceAdd, Nat.reduceMul, Nat.reduceLeDiff, Nat.reduceSub, Nat.reduceLT, Int.reduceToNat, Int.reduceLT, Int.reduceLE, reduceCtorEq]
      · simp only [q2, go_sem, Int.reduceTMod, Int.reduceTDiv, Int.reduceDiv, Int.reduceMod, Int.reduceAdd, Int.reduceSub, Int.reduceMul, Int.reduceNeg, Int.reducePow, Int.reduceEq, ↓reduceIte, Nat.reduceEqDiff, Nat.reduceAdd, Nat.reduceMul, Nat.reduceLeDiff, Nat.reduceSub, Nat.reduceLT, Int.reduceToNat, Int.reduceLT, Int.reduceLE, reduceCtorEq]
      · simp only [go_sem, Int.reduceTMod, Int.reduceTDiv, Int.reduceDiv, Int.reduceMod, Int.reduceAdd, Int.reduceSub, Int.reduceMul, Int.reduceNeg, Int.reducePow, Int.reduceEq, ↓reduceIte, Nat.reduceEqDiff, Nat.reduceAdd, Nat.reduceMul, Nat.reduceLeDiff, Nat.reduceSub, Nat.reduceLT, Int.reduceToNat, Int.reduceLT, Int.reduceLE, reduceCtorEq]
        omega
      · intro id hid
        simp only
        have hne2 : sid (.one x) ≠ some id := fun e => by have := qo.sidge e; omega
        rw [upd_ne _ _ (by omega), h2 id (by omega) hne2, upd_ne _ _ (by omega), upd_ne _ _ (by omega), upd_ne _ _ (by omega)]
        exact qm id hid
      · simp only [go_sem, Int.reduceTMod, Int.reduceTDiv, Int.reduceDiv, Int.reduceMod, Int.reduceAdd, Int.reduceSub, Int.reduceMul, Int.reduceNeg, Int.reducePow, Int.reduceEq, ↓reduceIte, Nat.reduceEqDiff, Nat.reduceAdd, Nat.reduceMul, Nat.reduceLeDiff, Nat.reduceSub, Nat.reduceLT, Int.reduceToNat, Int.reduceLT, Int.reduceLE, reduceCtorEq]
      · simp only [go_sem, Int.reduceTMod, Int.reduceTDiv, Int.reduceDiv, Int.reduceMod, Int.reduceAdd, Int.reduceSub, Int.reduceMul, Int.reduceNeg, Int.reducePow, Int.reduceEq, ↓reduceIte, Nat.reduceEqDiff, Nat.reduceAdd, Nat.reduceMul, Nat.reduceLeDiff, Nat.reduceSub, Nat.reduceLT, Int.reduceToNat, Int.reduceLT, Int.reduceLE, reduceCtorEq]
        rw [take_snoc hp, twL_append]
        exact ho.keep (Nat.le_refl _) (fun id k1 k2 => upd_ne _ _ (by omega))
    · obtain ⟨e, M, N⟩ := s
      obtain ⟨q30, q29, q28, q3, q7, q1, q2, qn, qm, x, qx, qo⟩ := hs'
      simp only at q30 q29 q28 q3 q7 q1 q2 qn qm qx qo
      have c2 : ((l.length : Int) < (l.length : Int)) = False := eq_false (by omega)
      rw [List.take_length] at qo
      have hr2 : RPt M N (.one c0) l := hr0.keep (by omega) qm
      have hb2 : M n = some ⟨[c0, .sc (.bool c)], true⟩ := by rw [qm n (by omega)]; exact hn0
      have hz2 : M 0 = some ⟨cosT, o⟩ := by rw [qm 0 (by omega)]; exact hz0
      have hx2 : RPt M N (.one x) (twL l) := qo.rl cs2
      try simp only [r5_0, r5_1, r5_2, r5_3, r5_4, r5_5, r5_6, r5_7, r5_8, r5_9, r5_10, r5_11, r5_12, r5_13, r5_14, r5_15, r5_16, r5_17, r5_18, r5_19, r5_20, r5_21, r5_22, r5_23, r5_24, r5_25, c5, F5, l5_0, l5_1, q30, q29, c2, q3, hb2, rd_of hb2, q1, q2, go_sem, Int.reduceTMod, Int.reduceTDiv, Int.reduceDiv, Int.reduceMod, Int.reduceAdd, Int.reduceSub, Int.reduceMul, Int.reduceNeg, Int.reducePow, Int.reduceEq, ↓reduceIte, Nat.reduceEqDiff, Nat.reduceAdd, Nat.reduceMul, Nat.reduceLeDiff, Nat.reduceSub, Nat.reduceLT, Int.reduceToNat, Int.reduceLT, Int.reduceLE, reduceCtorEq]
      repeat' ((first | refine FK_split (fun h_ => ?_) (fun h_ => ?_) | refine GK_split (fun h_ => ?_) (fun h_ => ?_) | refine ite_both (fun h_ => ?_) (fun h_ => ?_)) <;> (try simp only [decide_eq_true_eq, decide_eq_false_iff_not, Bool.not_true, Bool.not_false, Bool.not_eq_true', Bool.not_eq_false', Bool.not_eq_eq_eq_not, Decidable.not_not] at h_) <;> (try simp only [r5_0, r5_1, r5_2, r5_3, r5_4, r5_5, r5_6, r5_7, r5_8, r5_9, r5_10, r5_11, r5_12, r5_13, r5_14, r5_15, r5_16, r5_17, r5_18, r5_19, r5_20, r5_21, r5_22, r5_23, r5_24, r5_25, c5, F5, l5_0, l5_1, q30, q29, c2, q3, hb2, rd_of hb2, q1, q2, h_, go_sem, Int.reduceTMod, Int.reduceTDiv, Int.reduceDiv, Int.reduceMod, Int.reduceAdd, Int.reduceSub, Int.reduceMul, Int.reduceNeg, Int.reducePow, Int.reduceEq, ↓reduceIte, Nat.reduceEqDiff, Nat.reduceAdd, Nat.reduceMul, Nat.reduceLeDiff, Nat.reduceSub, Nat.reduceLT, Int.reduceToNat, Int.reduceLT, Int.reduceLE, reduceCtorEq]))
      refine RK_callk ?_
      refine (w_Stroke (c := c) (h := h) (cap := cap) (o := false) hr2.frz (by omega) (by omega) (by rw [frz_at, hz2]; rfl)).mono ?_
      intro r1 m1 n1 hq1
      obtain ⟨u1, rfl, p1, hp1, hO1⟩ := hq1.uni
      obtain ⟨M1, hM1⟩ : ∃ M1, M1 = unfrz M N m1 := ⟨_, rfl⟩
      obtain ⟨N1, hN1⟩ : ∃ N1, N1 = max N n1 := ⟨_, rfl⟩
      rw [← hM1, ← hN1]
      have hf1 : ∀ id, id < N → M1 id = M id := fun id hid => by rw [hM1, unfrz_at, if_pos hid]
      have hx3 : RPt M1 N1 (.one x) (twL l) := hx2.keep (by omega) hf1
      have hr3 : RPt M1 N1 (.one c0) l := hr2.keep (by omega) hf1
      have hz3 : M1 0 = some ⟨cosT, o⟩ := by rw [hf1 0 (by omega)]; exact hz2
      have qx3 : M1 (n + 1) = some ⟨[x, .sc (.bool c)], true⟩ := by rw [hf1 _ (by omega)]; exact qx
      have hA1 : OPs p1 p1 p1 M1 N1 u1 (lsOf (strokeI (plainL l c) c h cap) (decide ((1 ≤ h ∧ h ≤ 32768) ∧ 0 ≤ cap ∧ cap ≤ 2) && l.all inP)) := hO1.keep (by omega) (fun id a b _ _ => by rw [hM1, unfrz_at, if_neg (by omega)])
      try simp only [r5_0, r5_1, r5_2, r5_3, r5_4, r5_5, r5_6, r5_7, r5_8, r5_9, r5_10, r5_11, r5_12, r5_13, r5_14, r5_15, r5_16, r5_17, r5_18, r5_19, r5_20, r5_21, r5_22, r5_23, r5_24, r5_25, c5, F5, q7, qx3, rd_of qx3, q1, q2, go_sem, Int.reduceTMod, Int.reduceTDiv, Int.reduceDiv, Int.reduceMod, Int.reduceAdd, Int.reduceSub, Int.reduceMul, Int.reduceNeg, Int.reducePow, Int.reduceEq, ↓reduceIte, Nat.reduceEqDiff, Nat.reduceAdd, Nat.reduceMul, Nat.reduceLeDiff, Nat.reduceSub, Nat.reduceLT, Int.reduceToNat, Int.reduceLT, Int.reduceLE, reduceCtorEq]
      repeat' ((first | refine FK_split (fun h_ => ?_) (fun h_ => ?_) | refine GK_split (fun h_ => ?_) (fun h_ => ?_) | refine ite_both (fun h_ => ?_) (fun h_ => ?_)) <;> (try simp only [decide_eq_true_eq, decide_eq_false_iff_not, Bool.not_true, Bool.not_false, Bool.not_eq_true', Bool.not_eq_false', Bool.not_eq_eq_eq_not, Decidable.not_not] at h_) <;> (try simp only [r5_0, r5_1, r5_2, r5_3, r5_4, r5_5, r5_6, r5_7, r5_8, r5_9, r5_10, r5_11, r5_12, r5_13, r5_14, r5_15, r5_16, r5_17, r5_18, r5_19, r5_20, r5_21, r5_22, r5_23, r5_24, r5_25, c5, F5, q7, qx3, rd_of qx3, q1, q2, h_, go_sem, Int.reduceTMod, Int.reduceTDiv, Int.reduceDiv, Int.reduceMod, Int.reduceAdd, Int.reduceSub, Int.reduceMul, Int.reduceNeg, Int.reducePow, Int.reduceEq, ↓reduceIte, Nat.reduceEqDiff, Nat.reduceAdd, Nat.reduceMul, Nat.reduceLeDiff, Nat.reduceSub, Nat.reduceLT, Int.reduceToNat, Int.reduceLT, Int.reduceLE, reduceCtorEq]))
      refine RK_callk ?_
      refine (w_Stroke (c := c) (h := h) (cap := cap) (o := false) hx3.frz (by rw [twL_len]; omega) (by omega) (by rw [frz_at, hz3]; rfl)).mono ?_
      intro r2 m2 n2 hq2
      rw [plain_tw, twL_all] at hq2
      obtain ⟨u2, rfl, p2, hp2, hO2⟩ := hq2.uni
      obtain ⟨M2, hM2⟩ : ∃ M2, M2 = unfrz M1 N1 m2 := ⟨_, rfl⟩
      obtain ⟨N2, hN2⟩ : ∃ N2, N2 = max N1 n2 := ⟨_, rfl⟩
      rw [← hM2, ← hN2]
      have hf2 : ∀ id, id < N1 → M2 id = M1 id := fun id hid => by rw [hM2, unfrz_at, if_pos hid]
      have hr4 : RPt M2 N2 (.one c0) l := hr3.keep (by omega) hf2
      have hb4 : M2 n = some ⟨[c0, .sc (.bool c)], true⟩ := by rw [hf2 n (by omega), hf1 n (by omega)]; exact hb2
      have hB1 := hA1.keep (m' := M2) (n' := N2) (by omega) (fun id a b _ _ => hf2 id b)
      have hB2 := hO2.keep (m' := M2) (n' := N2) (by omega) (fun id a b _ _ => by rw [hM2, unfrz_at, if_neg (by omega)])
      have hl1 := lsOf_len (strokeI (plainL l c) c h cap) (decide ((1 ≤ h ∧ h ≤ 32768) ∧ 0 ≤ cap ∧ cap ≤ 2) && l.all inP)
      have hl2 := stroke_len h (plainL l c) c cap
      have hl3 := plain_len l c
      have hls := lsOf_l16 (stroke_l16 h (plainL l c) c cap) (decide ((1 ≤ h ∧ h ≤ 32768) ∧ 0 ≤ cap ∧ cap ≤ 2) && l.all inP)
      clear hA1 hO2 hO1 hq1 hq2
      generalize kkOf (strokeI (plainL l c) c h cap) (decide ((1 ≤ h ∧ h ≤ 32768) ∧ 0 ≤ cap ∧ cap ≤ 2) && l.all inP) = kk at *
      generalize lsOf (strokeI (plainL l c) c h cap) (decide ((1 ≤ h ∧ h ≤ 32768) ∧ 0 ≤ cap ∧ cap ≤ 2) && l.all inP) = ls at *
      have hlA := hB1.len
      have hlB := hB2.len
      try simp only [r5_0, r5_1, r5_2, r5_3, r5_4, r5_5, r5_6, r5_7, r5_8, r5_9, r5_10, r5_11, r5_12, r5_13, r5_14, r5_15, r5_16, r5_17, r5_18, r5_19, r5_20, r5_21, r5_22, r5_23, r5_24, r5_25, c5, F5, hlA, hlB, go_sem, Int.reduceTMod, Int.reduceTDiv, Int.reduceDiv, Int.reduceMod, Int.reduceAdd, Int.reduceSub, Int.reduceMul, Int.reduceNeg, Int.reducePow, Int.reduceEq, ↓reduceIte, Nat.reduceEqDiff, Nat.reduceAdd, Nat.reduceMul, Nat.reduceLeDiff, Nat.reduceSub, Nat.reduceLT, Int.reduceToNat, Int.reduceLT, Int.reduceLE, reduceCtorEq]
      repeat' ((first | refine FK_split (fun h_ => ?_) (fun h_ => ?_) | refine GK_split (fun h_ => ?_) (fun h_ => ?_) | refine ite_both (fun h_ => ?_) (fun h_ => ?_)) <;> (try simp only [decide_eq_true_eq, decide_eq_false_iff_not, Bool.not_true, Bool.not_false, Bool.not_eq_true', Bool.not_eq_false', Bool.not_eq_eq_eq_not, Decidable.not_not] at h_) <;> (try simp only [r5_0, r5_1, r5_2, r5_3, r5_4, r5_5, r5_6, r5_7, r5_8, r5_9, r5_10, r5_11, r5_12, r5_13, r5_14, r5_15, r5_16, r5_17, r5_18, r5_19, r5_20, r5_21, r5_22, r5_23, r5_24, r5_25, c5, F5, hlA, hlB, h_, go_sem, Int.reduceTMod, Int.reduceTDiv, Int.reduceDiv, Int.reduceMod, Int.reduceAdd, Int.reduceSub, Int.reduceMul, Int.reduceNeg, Int.reducePow, Int.reduceEq, ↓reduceIte, Nat.reduceEqDiff, Nat.reduceAdd, Nat.reduceMul, Nat.reduceLeDiff, Nat.reduceSub, Nat.reduceLT, Int.reduceToNat, Int.reduceLT, Int.reduceLE, reduceCtorEq]))
      refine XK_iter (inv := fun i s => s.e 68 = RI i ∧ s.e 67 = RI ls.length ∧ s.e 10 = u1 ∧ s.e 12 = u2 ∧ s.e 3 = .one (.ptr n 0) ∧ s.e 1 = RI h ∧ N2 ≤ s.n ∧ ∀ id, id < N2 → s.m id = M2 id) ls.length
        (fun L _ => ⟨fun i hi s hs' next => ?_, fun s hs' => ?_⟩) 0 (by omega) _ ⟨?_, ?_, ?_, ?_, ?_, ?_, Nat.le_refl _, fun _ _ => rfl⟩
      · obtain ⟨e, M, N⟩ := s
        obtain ⟨q68, q67, q10, q12, q3, q1, qn, qm⟩ := hs'
        simp only at q68 q67 q10 q12 q3 q1 qn qm
        have hp : ls[i]? = some ls[i] := List.getElem?_eq_getElem hi
        have hB3 := hB1.keep (m' := M) (n' := N) qn (fun id a b _ _ => qm id b)
        have hB4 := hB2.keep (m' := M) (n' := N) qn (fun id a b _ _ => qm id b)
        obtain ⟨id, b, d, hro, hid, hb, hc, hrc⟩ := hB3.at hp
        obtain ⟨id', b', d', hro', hid', hb', hc', hrc'⟩ := hB4.at hp
        have hsl := hls ls[i] (List.getElem_mem hi)
        have c2 : ((i : Int) < (ls.length : Int)) = True := eq_true (by omega)
        have c3 : (0 ≤ (i : Int)) = True := eq_true (by omega)
        have c7 : IntKind.i64.wrap ((i : Int) + 1) = ((i + 1 : Nat) : Int) := wr_nat (by omega)
        rw [hro] at q10
        rw [hro'] at q12
        generalize ls[i] = lp at *
        try simp only [r5_0, r5_1, r5_2, r5_3, r5_4, r5_5, r5_6, r5_7, r5_8, r5_9, r5_10, r5_11, r5_12, r5_13, r5_14, r5_15, r5_16, r5_17, r5_18, r5_19, r5_20, r5_21, r5_22, r5_23, r5_24, r5_25, c5, F5, l5_0, l5_1, q68, q67, q10, q12, lenO, c2, c3, c7, hb, hc, hb', hc', Int.toNat_natCast, Nat.mul_one, Nat.zero_add, go_sem, Int.reduceTMod, Int.reduceTDiv, Int.reduceDiv, Int.reduceMod, Int.reduceAdd, Int.reduceSub, Int.reduceMul, Int.reduceNeg, Int.reducePow, Int.reduceEq, ↓reduceIte, Nat.reduceEqDiff, Nat.reduceAdd, Nat.reduceMul, Nat.reduceLeDiff, Nat.reduceSub, Nat.reduceLT, Int.reduceToNat, Int.reduceLT, Int.reduceLE, reduceCtorEq]
        repeat' ((first | refine FK_split (fun h_ => ?_) (fun h_ => ?_) | refine GK_split (fun h_ => ?_) (fun h_ => ?_) | refine ite_both (fun h_ => ?_) (fun h_ => ?_)) <;> (try simp only [decide_eq_true_eq, decide_eq_false_iff_not, Bool.not_true, Bool.not_false, Bool.not_eq_true', Bool.not_eq_false', Bool.not_eq_eq_eq_not, Decidable.not_not] at h_) <;> (try simp only [r5_0, r5_1, r5_2, r5_3, r5_4, r5_5, r5_6, r5_7, r5_8, r5_9, r5_10, r5_11, r5_12, r5_13, r5_14, r5_15, r5_16, r5_17, r5_18, r5_19, r5_20, r5_21, r5_22, r5_23, r5_24, r5_25, c5, F5, l5_0, l5_1, q68, q67, q10, q12, lenO, c2, c3, c7, hb, hc, hb', hc', Int.toNat_natCast, Nat.mul_one, Nat.zero_add, h_, go_sem, Int.reduceTMod, Int.reduceTDiv, Int.reduceDiv, Int.reduceMod, Int.reduceAdd, Int.reduceSub, Int.reduceMul, Int.reduceNeg, Int.reducePow, Int.reduceEq, ↓reduceIte, Nat.reduceEqDiff, Nat.reduceAdd, Nat.reduceMul, Nat.reduceLeDiff, Nat.reduceSub, Nat.reduceLT, Int.reduceToNat, Int.reduceLT, Int.reduceLE, reduceCtorEq]))
        refine RK_callk ?_
        refine (w_refs _ lp _ _ hrc'.frz hsl).mono ?_
        rintro r5 m5 n5 ⟨ho5, hn5⟩
        obtain ⟨M5, hM5⟩ : ∃ M5, M5 = unfrz M N m5 := ⟨_, rfl⟩
        rw [← hM5, show max N n5 = n5 by omega]
        have hy5 : RPt M5 n5 r5 lp := (ho5.rl cs2).keep' (Nat.le_refl _) (fun id hid => by rw [hM5, unfrz_at, if_neg (by have := ho5.sidge hid; omega)])
        have hx5 : RPt M5 n5 (.one d) lp := hrc.keep hn5 (fun id hid => by rw [hM5, unfrz_at, if_pos hid])
        have vs := v_same (.one d) r5 _ _ (frz M5) n5 hx5.frz hy5.frz hsl
        rw [decide_eq_true rfl] at vs
        try simp only [r5_0, r5_1, r5_2, r5_3, r5_4, r5_5, r5_6, r5_7, r5_8, r5_9, r5_10, r5_11, r5_12, r5_13, r5_14, r5_15, r5_16, r5_17, r5_18, r5_19, r5_20, r5_21, r5_22, r5_23, r5_24, r5_25, c5, F5, l5_0, l5_1, vs, q68, c7, go_sem, Int.reduceTMod, Int.reduceTDiv, Int.reduceDiv, Int.reduceMod, Int.reduceAdd, Int.reduceSub, Int.reduceMul, Int.reduceNeg, Int.reducePow, Int.reduceEq, ↓reduceIte, Nat.reduceEqDiff, Nat.reduceAdd, Nat.reduceMul, Nat.reduceLeDiff, Nat.reduceSub, Nat.reduceLT, Int.reduceToNat, Int.reduceLT, Int.reduceLE, reduceCtorEq]
        repeat' ((first | refine FK_split (fun h_ => ?_) (fun h_ => ?_) | refine GK_split (fun h_ => ?_) (fun h_ => ?_) | refine ite_both (fun h_ => ?_) (fun h_ => ?_)) <;> (try simp only [decide_eq_true_eq, decide_eq_false_iff_not, Bool.not_true, Bool.not_false, Bool.not_eq_true', Bool.not_eq_false', Bool.not_eq_eq_eq_not, Decidable.not_not] at h_) <;> (try simp only [r5_0, r5_1, r5_2, r5_3, r5_4, r5_5, r5_6, r5_7, r5_8, r5_9, r5_10, r5_11, r5_12, r5_13, r5_14, r5_15, r5_16, r5_17, r5_18, r5_19, r5_20, r5_21, r5_22, r5_23, r5_24, r5_25, c5, F5, l5_0, l5_1, vs, q68, c7, h_, go_sem, Int.reduceTMod, Int.reduceTDiv, Int.reduceDiv, Int.reduceMod, Int.reduceAdd, Int.reduceSub, Int.reduceMul, Int.reduceNeg, Int.reducePow, Int.reduceEq, ↓reduceIte, Nat.reduceEqDiff, Nat.reduceAdd, Nat.reduceMul, Nat.reduceLeDiff, Nat.reduceSub, Nat.reduceLT, Int.reduceToNat, Int.reduceLT, Int.reduceLE, reduceCtorEq]))
        refine next _ ⟨?_, ?_, ?_, ?_, ?_, ?_, ?_, fun id hid => ?_⟩
        · simp only [go_sem, Int.reduceTMod, Int.reduceTDiv, Int.reduceDiv, Int.reduceMod, Int.reduceAdd, Int.reduceSub, Int.reduceMul, Int.reduceNeg, Int.reducePow, Int.reduceEq, ↓reduceIte, Nat.reduceEqDiff, Nat.reduceAdd, Nat.reduceMul, Nat.reduceLeDiff, Nat.reduceSub, Nat.reduceLT, Int.reduceToNat, Int.reduceLT, Int.reduceLE, reduceCtorEq]
        · simp only [q67, go_sem, Int.reduceTMod, Int.reduceTDiv, Int.reduceDiv, Int.reduceMod, Int.reduceAdd, Int.reduceSub, Int.reduceMul, Int.reduceNeg, Int.reducePow, Int.reduceEq, ↓reduceIte, Nat.reduceEqDiff, Nat.reduceAdd, Nat.reduceMul, Nat.reduceLeDiff, Nat.reduceSub, Nat.reduceLT, Int.reduceToNat, Int.reduceLT, Int.reduceLE, reduceCtorEq]
        · simp only [q10, hro, go_sem, Int.reduceTMod, Int.reduceTDiv, Int.reduceDiv, Int.reduceMod, Int.reduceAdd, Int.reduceSub, Int.reduceMul, Int.reduceNeg, Int.reducePow, Int.reduceEq, ↓reduceIte, Nat.reduceEqDiff, Nat.reduceAdd, Nat.reduceMul, Nat.reduceLeDiff, Nat.reduceSub, Nat.reduceLT, Int.reduceToNat, Int.reduceLT, Int.reduceLE, reduceCtorEq]
        · simp only [q12, hro', go_sem, Int.reduceTMod, Int.reduceTDiv, Int.reduceDiv, Int.reduceMod, Int.reduceAdd, Int.reduceSub, Int.reduceMul, Int.reduceNeg, Int.reducePow, Int.reduceEq, ↓reduceIte, Nat.reduceEqDiff, Nat.reduceAdd, Nat.reduceMul, Nat.reduceLeDiff, Nat.reduceSub, Nat.reduceLT, Int.reduceToNat, Int.reduceLT, Int.reduceLE, reduceCtorEq]
        · simp only [q3, go_sem, Int.reduceTMod, Int.reduceTDiv, Int.reduceDiv, Int.reduceMod, Int.reduceAdd, Int.reduceSub, Int.reduceMul, Int.reduceNeg, Int.reducePow, Int.reduceEq, ↓reduceIte, Nat.reduceEqDiff, Nat.reduceAdd, Nat.reduceMul, Nat.reduceLeDiff, Nat.reduceSub, Nat.reduceLT, Int.reduceToNat, Int.reduceLT, Int.reduceLE, reduceCtorEq]
        · simp only [q1, go_sem, Int.reduceTMod, Int.reduceTDiv, Int.reduceDiv, Int.reduceMod, Int.reduceAdd, Int.reduceSub, Int.reduceMul, Int.reduceNeg, Int.reducePow, Int.reduceEq, ↓reduceIte, Nat.reduceEqDiff, Nat.reduceAdd, Nat.reduceMul, Nat.reduceLeDiff, Nat.reduceSub, Nat.reduceLT, Int.reduceToNat, Int.reduceLT, Int.reduceLE, reduceCtorEq]
        · simp only [go_sem, Int.reduceTMod, Int.reduceTDiv, Int.reduceDiv, Int.reduceMod, Int.reduceAdd, Int.reduceSub, Int.reduceMul, Int.reduceNeg, Int.reducePow, Int.reduceEq, ↓reduceIte, Nat.reduceEqDiff, Nat.reduceAdd, Nat.reduceMul, Nat.reduceLeDiff, Nat.reduceSub, Nat.reduceLT, Int.reduceToNat, Int.reduceLT, Int.reduceLE, reduceCtorEq]
          omega
        · simp only
          rw [hM5, unfrz_at, if_pos (by omega)]
          exact qm id hid
      · obtain ⟨e, M, N⟩ := s
        obtain ⟨q68, q67, q10, q12, q3, q1, qn, qm⟩ := hs'
        simp only at q68 q67 q10 q12 q3 q1 qn qm
        have c3 : ((ls.length : Int) < (ls.length : Int)) = False := eq_false (by omega)
        have hb5 : M n = some ⟨[c0, .sc (.bool c)], true⟩ := by rw [qm n (by omega)]; exact hb4
        have hr5 : RPt M N (.one c0) l := hr4.keep qn qm
        by_cases g2 : (l.length : Int) < 2
        · skip
          try simp only [r5_0, r5_1, r5_2, r5_3, r5_4, r5_5, r5_6, r5_7, r5_8, r5_9, r5_10, r5_11, r5_12, r5_13, r5_14, r5_15, r5_16, r5_17, r5_18, r5_19, r5_20, r5_21, r5_22, r5_23, r5_24, r5_25, c5, F5, l5_0, l5_1, q68, q67, c3, q3, hb5, rd_of hb5, hlen, g2, v_awake07, go_sem, Int.reduceTMod, Int.reduceTDiv, Int.reduceDiv, Int.reduceMod, Int.reduceAdd, Int.reduceSub, Int.reduceMul, Int.reduceNeg, Int.reducePow, Int.reduceEq, ↓reduceIte, Nat.reduceEqDiff, Nat.reduceAdd, Nat.reduceMul, Nat.reduceLeDiff, Nat.reduceSub, Nat.reduceLT, Int.reduceToNat, Int.reduceLT, Int.reduceLE, reduceCtorEq]
          repeat' ((first | refine FK_split (fun h_ => ?_) (fun h_ => ?_) | refine GK_split (fun h_ => ?_) (fun h_ => ?_) | refine ite_both (fun h_ => ?_) (fun h_ => ?_)) <;> (try simp only [decide_eq_true_eq, decide_eq_false_iff_not, Bool.not_true, Bool.not_false, Bool.not_eq_true', Bool.not_eq_false', Bool.not_eq_eq_eq_not, Decidable.not_not] at h_) <;> (try simp only [r5_0, r5_1, r5_2, r5_3, r5_4, r5_5, r5_6, r5_7, r5_8, r5_9, r5_10, r5_11, r5_12, r5_13, r5_14, r5_15, r5_16, r5_17, r5_18, r5_19, r5_20, r5_21, r5_22, r5_23, r5_24, r5_25, c5, F5, l5_0, l5_1, q68, q67, c3, q3, hb5, rd_of hb5, hlen, g2, v_awake07, h_, go_sem, Int.reduceTMod, Int.reduceTDiv, Int.reduceDiv, Int.reduceMod, Int.reduceAdd, Int.reduceSub, Int.reduceMul, Int.reduceNeg, Int.reducePow, Int.reduceEq, ↓reduceIte, Nat.reduceEqDiff, Nat.reduceAdd, Nat.reduceMul, Nat.reduceLeDiff, Nat.reduceSub, Nat.reduceLT, Int.reduceToNat, Int.reduceLT, Int.reduceLE, reduceCtorEq]))
        · have k0 : l[0]? = some (l[0]'(by omega)) := List.getElem?_eq_getElem (by omega)
          have k1 : l[1]? = some (l[1]'(by omega)) := List.getElem?_eq_getElem (by omega)
          obtain ⟨id, off, cap', hra, hid, hrd⟩ := hr5.at cs2 k0
          obtain ⟨id', off', cap2, hra', hid', hrd1⟩ := hr5.at cs2 k1
          rw [hra] at hra'
          simp only [Reg.one.injEq, Cell.sl.injEq, true_and] at hra'
          obtain ⟨rfl, rfl, rfl, _⟩ := hra'
          rw [Nat.zero_mul, Nat.add_zero] at hrd
          have d1 : ((0 : Int) < (l.length : Int)) = True := eq_true (by omega)
          have d2 : ((1 : Int) < (l.length : Int)) = True := eq_true (by omega)
          simp only [Reg.one.injEq] at hra
          rw [hra] at hb5 hlen
          generalize (l[0]'(by omega)) = a at *
          generalize (l[1]'(by omega)) = b at *
          try simp only [r5_0, r5_1, r5_2, r5_3, r5_4, r5_5, r5_6, r5_7, r5_8, r5_9, r5_10, r5_11, r5_12, r5_13, r5_14, r5_15, r5_16, r5_17, r5_18, r5_19, r5_20, r5_21, r5_22, r5_23, r5_24, r5_25, c5, F5, l5_0, l5_1, q68, q67, c3, q3, q1, hb5, rd_of hb5, hlen, lenO, g2, d1, d2, hrd, hrd1, Nat.one_mul, Int.toNat_zero, Int.reduceToNat, Nat.zero_mul, Nat.add_zero, go_sem, Int.reduceTMod, Int.reduceTDiv, Int.reduceDiv, Int.reduceMod, Int.reduceAdd, Int.reduceSub, Int.reduceMul, Int.reduceNeg, Int.reducePow, Int.reduceEq, ↓reduceIte, Nat.reduceEqDiff, Nat.reduceAdd, Nat.reduceMul, Nat.reduceLeDiff, Nat.reduceSub, Nat.reduceLT, Int.reduceToNat, Int.reduceLT, Int.reduceLE, reduceCtorEq]
          repeat' ((first | refine FK_split (fun h_ => ?_) (fun h_ => ?_) | refine GK_split (fun h_ => ?_) (fun h_ => ?_) | refine ite_both (fun h_ => ?_) (fun h_ => ?_)) <;> (try simp only [decide_eq_true_eq, decide_eq_false_iff_not, Bool.not_true, Bool.not_false, Bool.not_eq_true', Bool.not_eq_false', Bool.not_eq_eq_eq_not, Decidable.not_not] at h_) <;> (try simp only [r5_0, r5_1, r5_2, r5_3, r5_4, r5_5, r5_6, r5_7, r5_8, r5_9, r5_10, r5_11, r5_12, r5_13, r5_14, r5_15, r5_16, r5_17, r5_18, r5_19, r5_20, r5_21, r5_22, r5_23, r5_24, r5_25, c5, F5, l5_0, l5_1, q68, q67, c3, q3, q1, hb5, rd_of hb5, hlen, lenO, g2, d1, d2, hrd, hrd1, Nat.one_mul, Int.toNat_zero, Int.reduceToNat, Nat.zero_mul, Nat.add_zero, h_, go_sem, Int.reduceTMod, Int.reduceTDiv, Int.reduceDiv, Int.reduceMod, Int.reduceAdd, Int.reduceSub, Int.reduceMul, Int.reduceNeg, Int.reducePow, Int.reduceEq, ↓reduceIte, Nat.reduceEqDiff, Nat.reduceAdd, Nat.reduceMul, Nat.reduceLeDiff, Nat.reduceSub, Nat.reduceLT, Int.reduceToNat, Int.reduceLT, Int.reduceLE, reduceCtorEq]))
          refine RK_callk ?_
          refine (w_BarAny a b h _ _).mono ?_
          rintro _ m6 n6 ⟨x6, k6, rfl, hq6⟩
          obtain ⟨M6, hM6⟩ : ∃ M6, M6 = unfrz M N m6 := ⟨_, rfl⟩
          obtain ⟨N6, hN6⟩ : ∃ N6, N6 = max N n6 := ⟨_, rfl⟩
          rw [← hM6, ← hN6]
          have hf6 : ∀ id, id < N → M6 id = M id := fun id hid => by rw [hM6, unfrz_at, if_pos hid]
          have hb6 := hb5
          rw [← hf6 n (by omega)] at hb6
          rw [← rd_unfrz (m' := m6) hid, ← hM6] at hrd hrd1
          try simp only [r5_0, r5_1, r5_2, r5_3, r5_4, r5_5, r5_6, r5_7, r5_8, r5_9, r5_10, r5_11, r5_12, r5_13, r5_14, r5_15, r5_16, r5_17, r5_18, r5_19, r5_20, r5_21, r5_22, r5_23, r5_24, r5_25, c5, F5, q3, q1, hb6, rd_of hb6, lenO, d1, d2, hrd, hrd1, Nat.one_mul, Int.toNat_zero, Int.reduceToNat, Nat.zero_mul, Nat.add_zero, go_sem, Int.reduceTMod, Int.reduceTDiv, Int.reduceDiv, Int.reduceMod, Int.reduceAdd, Int.reduceSub, Int.reduceMul, Int.reduceNeg, Int.reducePow, Int.reduceEq, ↓reduceIte, Nat.reduceEqDiff, Nat.reduceAdd, Nat.reduceMul, Nat.reduceLeDiff, Nat.reduceSub, Nat.reduceLT, Int.reduceToNat, Int.reduceLT, Int.reduceLE, reduceCtorEq]
          repeat' ((first | refine FK_split (fun h_ => ?_) (fun h_ => ?_) | refine GK_split (fun h_ => ?_) (fun h_ => ?_) | refine ite_both (fun h_ => ?_) (fun h_ => ?_)) <;> (try simp only [decide_eq_true_eq, decide_eq_false_iff_not, Bool.not_true, Bool.not_false, Bool.not_eq_true', Bool.not_eq_false', Bool.not_eq_eq_eq_not, Decidable.not_not] at h_) <;> (try simp only [r5_0, r5_1, r5_2, r5_3, r5_4, r5_5, r5_6, r5_7, r5_8, r5_9, r5_10, r5_11, r5_12, r5_13, r5_14, r5_15, r5_16, r5_17, r5_18, r5_19, r5_20, r5_21, r5_22, r5_23, r5_24, r5_25, c5, F5, q3, q1, hb6, rd_of hb6, lenO, d1, d2, hrd, hrd1, Nat.one_mul, Int.toNat_zero, Int.reduceToNat, Nat.zero_mul, Nat.add_zero, h_, go_sem, Int.reduceTMod, Int.reduceTDiv, Int.reduceDiv, Int.reduceMod, Int.reduceAdd, Int.reduceSub, Int.reduceMul, Int.reduceNeg, Int.reducePow, Int.reduceEq, ↓reduceIte, Nat.reduceEqDiff, Nat.reduceAdd, Nat.reduceMul, Nat.reduceLeDiff, Nat.reduceSub, Nat.reduceLT, Int.reduceToNat, Int.reduceLT, Int.reduceLE, reduceCtorEq]))
          refine RK_callk ?_
          refine (w_BarAny b a h _ _).mono ?_
          rintro _ m7 n7 ⟨x7, k7, rfl, hq7⟩
          obtain ⟨M7, hM7⟩ : ∃ M7, M7 = unfrz M6 N6 m7 := ⟨_, rfl⟩
          obtain ⟨N7, hN7⟩ : ∃ N7, N7 = max N6 n7 := ⟨_, rfl⟩
          rw [← hM7, ← hN7]
          by_cases z6 : k6 = 0
          · by_cases z7 : k7 = 0
            · obtain ⟨⟨ia, ib, iab, h1, h2, il, iq⟩, hx6, hs6⟩ := hq6 z6
              obtain ⟨_, hx7, hs7⟩ := hq7 z7
              have hx6' : RPt M6 N6 (.one x6) (barQ a b h) := hx6.keep' (by omega) (fun id hid => by rw [hM6, unfrz_at, if_neg (by have := hs6 id hid; omega)])
              have hy6 : RPt M7 N7 (.one x6) (barQ a b h) := hx6'.keep (by omega) (fun id hid => by rw [hM7, unfrz_at, if_pos hid])
              have hy7 : RPt M7 N7 (.one x7) (barQ b a h) := hx7.keep' (by omega) (fun id hid => by rw [hM7, unfrz_at, if_neg (by have := hs7 id hid; omega)])
              have key := barQ_near a b h iab il
              have e4 : (barQ a b h).length = 4 := rfl
              have e4' : (barQ b a h).length = 4 := rfl
              have at4 : ∀ (l : List Pt), l.length = 4 → ∃ p0 p1 p2 p3, l = [p0, p1, p2, p3] := fun l hl => by
                match l, hl with
                | [p0, p1, p2, p3], _ => exact ⟨p0, p1, p2, p3, rfl⟩
              obtain ⟨p0, p1, p2, p3, ep⟩ := at4 _ e4
              obtain ⟨s0, s1, s2, s3, es⟩ := at4 _ e4'
              rw [ep, es] at key
              rw [ep] at hy6
              rw [es] at hy7
              have v0 := key 0 p0 s2 rfl rfl
              have v1 := key 1 p1 s3 rfl rfl
              have v2 := key 2 p2 s0 rfl rfl
              have v3 := key 3 p3 s1 rfl rfl
              have w0 := v_near p0 s2 v0.1 v0.2
              have w1 := v_near p1 s3 v1.1 v1.2
              have w2 := v_near p2 s0 v2.1 v2.2
              have w3 := v_near p3 s1 v3.1 v3.2
              obtain ⟨i6, o6, c6, er6, hi6, a0⟩ := hy6.at cs2 (show [p0, p1, p2, p3][0]? = some p0 from rfl)
              obtain ⟨i6', o6', c6', er6', hi6', a1⟩ := hy6.at cs2 (show [p0, p1, p2, p3][1]? = some p1 from rfl)
              rw [er6] at er6'
              simp only [Reg.one.injEq, Cell.sl.injEq, true_and] at er6'
              obtain ⟨rfl, rfl, rfl, _⟩ := er6'
              obtain ⟨i6', o6', c6', er6', hi6', a2⟩ := hy6.at cs2 (show [p0, p1, p2, p3][2]? = some p2 from rfl)
              rw [er6] at er6'
              simp only [Reg.one.injEq, Cell.sl.injEq, true_and] at er6'
              obtain ⟨rfl, rfl, rfl, _⟩ := er6'
              obtain ⟨i6', o6', c6', er6', hi6', a3⟩ := hy6.at cs2 (show [p0, p1, p2, p3][3]? = some p3 from rfl)
              rw [er6] at er6'
              simp only [Reg.one.injEq, Cell.sl.injEq, true_and] at er6'
              obtain ⟨rfl, rfl, rfl, _⟩ := er6'
              obtain ⟨i7, o7, c7, er7, hi7, b0⟩ := hy7.at cs2 (show [s0, s1, s2, s3][0]? = some s0 from rfl)
              obtain ⟨i6', o6', c6', er6', hi6', b1⟩ := hy7.at cs2 (show [s0, s1, s2, s3][1]? = some s1 from rfl)
              rw [er7] at er6'
              simp only [Reg.one.injEq, Cell.sl.injEq, true_and] at er6'
              obtain ⟨rfl, rfl, rfl, _⟩ := er6'
              obtain ⟨i6', o6', c6', er6', hi6', b2⟩ := hy7.at cs2 (show [s0, s1, s2, s3][2]? = some s2 from rfl)
              rw [er7] at er6'
              simp only [Reg.one.injEq, Cell.sl.injEq, true_and] at er6'
              obtain ⟨rfl, rfl, rfl, _⟩ := er6'
              obtain ⟨i6', o6', c6', er6', hi6', b3⟩ := hy7.at cs2 (show [s0, s1, s2, s3][3]? = some s3 from rfl)
              rw [er7] at er6'
              simp only [Reg.one.injEq, Cell.sl.injEq, true_and] at er6'
              obtain ⟨rfl, rfl, rfl, _⟩ := er6'
              simp only [Reg.one.injEq, List.length_cons, List.length_nil, Nat.zero_add, Nat.reduceAdd] at er6 er7
              rw [Nat.zero_mul, Nat.add_zero] at a0 b0
              subst er6
              subst er7
              subst z6
              subst z7
              try simp only [r5_0, r5_1, r5_2, r5_3, r5_4, r5_5, r5_6, r5_7, r5_8, r5_9, r5_10, r5_11, r5_12, r5_13, r5_14, r5_15, r5_16, r5_17, r5_18, r5_19, r5_20, r5_21, r5_22, r5_23, r5_24, r5_25, c5, F5, lenO, a0, a1, a2, a3, b0, b1, b2, b3, w0, w1, w2, w3, Nat.one_mul, Int.toNat_zero, Int.reduceToNat, Nat.zero_mul, Nat.add_zero, v_awake07, go_sem, Int.reduceTMod, Int.reduceTDiv, Int.reduceDiv, Int.reduceMod, Int.reduceAdd, Int.reduceSub, Int.reduceMul, Int.reduceNeg, Int.reducePow, Int.reduceEq, ↓reduceIte, Nat.reduceEqDiff, Nat.reduceAdd, Nat.reduceMul, Nat.reduceLeDiff, Nat.reduceSub, Nat.reduceLT, Int.reduceToNat, Int.reduceLT, Int.reduceLE, reduceCtorEq]
              repeat' ((first | refine FK_split (fun h_ => ?_) (fun h_ => ?_) | refine GK_split (fun h_ => ?_) (fun h_ => ?_) | refine ite_both (fun h_ => ?_) (fun h_ => ?_)) <;> (try simp only [decide_eq_true_eq, decide_eq_false_iff_not, Bool.not_true, Bool.not_false, Bool.not_eq_true', Bool.not_eq_false', Bool.not_eq_eq_eq_not, Decidable.not_not] at h_) <;> (try simp only [r5_0, r5_1, r5_2, r5_3, r5_4, r5_5, r5_6, r5_7, r5_8, r5_9, r5_10, r5_11, r5_12, r5_13, r5_14, r5_15, r5_16, r5_17, r5_18, r5_19, r5_20, r5_21, r5_22, r5_23, r5_24, r5_25, c5, F5, lenO, a0, a1, a2, a3, b0, b1, b2, b3, w0, w1, w2, w3, Nat.one_mul, Int.toNat_zero, Int.reduceToNat, Nat.zero_mul, Nat.add_zero, v_awake07, h_, go_sem, Int.reduceTMod, Int.reduceTDiv, Int.reduceDiv, Int.reduceMod, Int.reduceAdd, Int.reduceSub, Int.reduceMul, Int.reduceNeg, Int.reducePow, Int.reduceEq, ↓reduceIte, Nat.reduceEqDiff, Nat.reduceAdd, Nat.reduceMul, Nat.reduceLeDiff, Nat.reduceSub, Nat.reduceLT, Int.reduceToNat, Int.reduceLT, Int.reduceLE, reduceCtorEq]))
            · skip
              try simp only [r5_0, r5_1, r5_2, r5_3, r5_4, r5_5, r5_6, r5_7, r5_8, r5_9, r5_10, r5_11, r5_12, r5_13, r5_14, r5_15, r5_16, r5_17, r5_18, r5_19, r5_20, r5_21, r5_22, r5_23, r5_24, r5_25, c5, F5, z6, z7, v_awake07, go_sem, Int.reduceTMod, Int.reduceTDiv, Int.reduceDiv, Int.reduceMod, Int.reduceAdd, Int.reduceSub, Int.reduceMul, Int.reduceNeg, Int.reducePow, Int.reduceEq, ↓reduceIte, Nat.reduceEqDiff, Nat.reduceAdd, Nat.reduceMul, Nat.reduceLeDiff, Nat.reduceSub, Nat.reduceLT, Int.reduceToNat, Int.reduceLT, Int.reduceLE, reduceCtorEq]
              repeat' ((first | refine FK_split (fun h_ => ?_) (fun h_ => ?_) | refine GK_split (fun h_ => ?_) (fun h_ => ?_) | refine ite_both (fun h_ => ?_) (fun h_ => ?_)) <;> (try simp only [decide_eq_true_eq, decide_eq_false_iff_not, Bool.not_true, Bool.not_false, Bool.not_eq_true', Bool.not_eq_false', Bool.not_eq_eq_eq_not, Decidable.not_not] at h_) <;> (try simp only [r5_0, r5_1, r5_2, r5_3, r5_4, r5_5, r5_6, r5_7, r5_8, r5_9, r5_10, r5_11, r5_12, r5_13, r5_14, r5_15, r5_16, r5_17, r5_18, r5_19, r5_20, r5_21, r5_22, r5_23, r5_24, r5_25, c5, F5, z6, z7, v_awake07, h_, go_sem, Int.reduceTMod, Int.reduceTDiv, Int.reduceDiv, Int.reduceMod, Int.reduceAdd, Int.reduceSub, Int.reduceMul, Int.reduceNeg, Int.reducePow, Int.reduceEq, ↓reduceIte, Nat.reduceEqDiff, Nat.reduceAdd, Nat.reduceMul, Nat.reduceLeDiff, Nat.reduceSub, Nat.reduceLT, Int.reduceToNat, Int.reduceLT, Int.reduceLE, reduceCtorEq]))
          · skip
            try simp only [r5_0, r5_1, r5_2, r5_3, r5_4, r5_5, r5_6, r5_7, r5_8, r5_9, r5_10, r5_11, r5_12, r5_13, r5_14, r5_15, r5_16, r5_17, r5_18, r5_19, r5_20, r5_21, r5_22, r5_23, r5_24, r5_25, c5, F5, z6, v_awake07, go_sem, Int.reduceTMod, Int.reduceTDiv, Int.reduceDiv, Int.reduceMod, Int.reduceAdd, Int.reduceSub, Int.reduceMul, Int.reduceNeg, Int.reducePow, Int.reduceEq, ↓reduceIte, Nat.reduceEqDiff, Nat.reduceAdd, Nat.reduceMul, Nat.reduceLeDiff, Nat.reduceSub, Nat.reduceLT, Int.reduceToNat, Int.reduceLT, Int.reduceLE, reduceCtorEq]
            repeat' ((first | refine FK_split (fun h_ => ?_) (fun h_ => ?_) | refine GK_split (fun h_ => ?_) (fun h_ => ?_) | refine ite_both (fun h_ => ?_) (fun h_ => ?_)) <;> (try simp only [decide_eq_true_eq, decide_eq_false_iff_not, Bool.not_true, Bool.not_false, Bool.not_eq_true', Bool.not_eq_false', Bool.not_eq_eq_eq_not, Decidable.not_not] at h_) <;> (try simp only [r5_0, r5_1, r5_2, r5_3, r5_4, r5_5, r5_6, r5_7, r5_8, r5_9, r5_10, r5_11, r5_12, r5_13, r5_14, r5_15, r5_16, r5_17, r5_18, r5_19, r5_20, r5_21, r5_22, r5_23, r5_24, r5_25, c5, F5, z6, v_awake07, h_, go_sem, Int.reduceTMod, Int.reduceTDiv, Int.reduceDiv, Int.reduceMod, Int.reduceAdd, Int.reduceSub, Int.reduceMul, Int.reduceNeg, Int.reducePow, Int.reduceEq, ↓reduceIte, Nat.reduceEqDiff, Nat.reduceAdd, Nat.reduceMul, Nat.reduceLeDiff, Nat.reduceSub, Nat.reduceLT, Int.reduceToNat, Int.reduceLT, Int.reduceLE, reduceCtorEq]))
      · simp only [go_sem, Int.reduceTMod, Int.reduceTDiv, Int.reduceDiv, Int.reduceMod, Int.reduceAdd, Int.reduceSub, Int.reduceMul, Int.reduceNeg, Int.reducePow, Int.reduceEq, ↓reduceIte, Nat.reduceEqDiff, Nat.reduceAdd, Nat.reduceMul, Nat.reduceLeDiff, Nat.reduceSub, Nat.reduceLT, Int.reduceToNat, Int.reduceLT, Int.reduceLE, reduceCtorEq]
      · simp only [go_sem, Int.reduceTMod, Int.reduceTDiv, Int.reduceDiv, Int.reduceMod, Int.reduceAdd, Int.reduceSub, Int.reduceMul, Int.reduceNeg, Int.reducePow, Int.reduceEq, ↓reduceIte, Nat.reduceEqDiff, Nat.reduceAdd, Nat.reduceMul, Nat.reduceLeDiff, Nat.reduceSub, Nat.reduceLT, Int.reduceToNat, Int.reduceLT, Int.reduceLE, reduceCtorEq]
      · simp only [go_sem, Int.reduceTMod, Int.reduceTDiv, Int.reduceDiv, Int.reduceMod, Int.reduceAdd, Int.reduceSub, Int.reduceMul, Int.reduceNeg, Int.reducePow, Int.reduceEq, ↓reduceIte, Nat.reduceEqDiff, Nat.reduceAdd, Nat.reduceMul, Nat.reduceLeDiff, Nat.reduceSub, Nat.reduceLT, Int.reduceToNat, Int.reduceLT, Int.reduceLE, reduceCtorEq]
      · simp only [go_sem, Int.reduceTMod, Int.reduceTDiv, Int.reduceDiv, Int.reduceMod, Int.reduceAdd, Int.reduceSub, Int.reduceMul, Int.reduceNeg, Int.reducePow, Int.reduceEq, ↓reduceIte, Nat.reduceEqDiff, Nat.reduceAdd, Nat.reduceMul, Nat.reduceLeDiff, Nat.reduceSub, Nat.reduceLT, Int.reduceToNat, Int.reduceLT, Int.reduceLE, reduceCtorEq]
      · simp only [q3, go_sem, Int.reduceTMod, Int.reduceTDiv, Int.reduceDiv, Int.reduceMod, Int.reduceAdd, Int.reduceSub, Int.reduceMul, Int.reduceNeg, Int.reducePow, Int.reduceEq, ↓reduceIte, Nat.reduceEqDiff, Nat.reduceAdd, Nat.reduceMul, Nat.reduceLeDiff, Nat.reduceSub, Nat.reduceLT, Int.reduceToNat, Int.reduceLT, Int.reduceLE, reduceCtorEq]
      · simp only [q1, go_sem, Int.reduceTMod, Int.reduceTDiv, Int.reduceDiv, Int.reduceMod, Int.reduceAdd, Int.reduceSub, Int.reduceMul, Int.reduceNeg, Int.reducePow, Int.reduceEq, ↓reduceIte, Nat.reduceEqDiff, Nat.reduceAdd, Nat.reduceMul, Nat.reduceLeDiff, Nat.reduceSub, Nat.reduceLT, Int.reduceToNat, Int.reduceLT, Int.reduceLE, reduceCtorEq]
    · simp only [go_sem, Int.reduceTMod, Int.reduceTDiv, Int.reduceDiv, Int.reduceMod, Int.reduceAdd, Int.reduceSub, Int.reduceMul, Int.reduceNeg, Int.reducePow, Int.reduceEq, ↓reduceIte, Nat.reduceEqDiff, Nat.reduceAdd, Nat.reduceMul, Nat.reduceLeDiff, Nat.reduceSub, Nat.reduceLT, Int.reduceToNat, Int.reduceLT, Int.reduceLE, reduceCtorEq]
    · simp only [go_sem, Int.reduceTMod, Int.reduceTDiv, Int.reduceDiv, Int.reduceMod, Int.reduceAdd, Int.reduceSub, Int.reduceMul, Int.reduceNeg, Int.reducePow, Int.reduceEq, ↓reduceIte, Nat.reduceEqDiff, Nat.reduceAdd, Nat.reduceMul, Nat.reduceLeDiff, Nat.reduceSub, Nat.reduceLT, Int.reduceToNat, Int.reduceLT, Int.reduceLE, reduceCtorEq]
    · simp only [go_sem, Int.reduceTMod, Int.reduceTDiv, Int.reduceDiv, Int.reduceMod, Int.reduceAdd, Int.reduceSub, Int.reduceMul, Int.reduceNeg, Int.reducePow, Int.reduceEq, ↓reduceIte, Nat.reduceEqDiff, Nat.reduceAdd, Nat.reduceMul, Nat.reduceLeDiff, Nat.reduceSub, Nat.reduceLT, Int.reduceToNat, Int.reduceLT, Int.reduceLE, reduceCtorEq]
    · simp only [go_sem, Int.reduceTMod, Int.reduceTDiv, Int.reduceDiv, Int.reduceMod, Int.reduceAdd, Int.reduceSub, Int.reduceMul, Int.reduceNeg, Int.reducePow, Int.reduceEq, ↓reduceIte, Nat.reduceEqDiff, Nat.reduceAdd, Nat.reduceMul, Nat.reduceLeDiff, Nat.reduceSub, Nat.reduceLT, Int.reduceToNat, Int.reduceLT, Int.reduceLE, reduceCtorEq]
    · simp only [go_sem, Int.reduceTMod, Int.reduceTDiv, Int.reduceDiv, Int.reduceMod, Int.reduceAdd, Int.reduceSub, Int.reduceMul, Int.reduceNeg, Int.reducePow, Int.reduceEq, ↓reduceIte, Nat.reduceEqDiff, Nat.reduceAdd, Nat.reduceMul, Nat.reduceLeDiff, Nat.reduceSub, Nat.reduceLT, Int.reduceToNat, Int.reduceLT, Int.reduceLE, reduceCtorEq]
    · simp only [go_sem, Int.reduceTMod, Int.reduceTDiv, Int.reduceDiv, Int.reduceMod, Int.reduceAdd, Int.reduceSub, Int.reduceMul, Int.reduceNeg, Int.reducePow, Int.reduceEq, ↓reduceIte, Nat.reduceEqDiff, Nat.reduceAdd, Nat.reduceMul, Nat.reduceLeDiff, Nat.reduceSub, Nat.reduceLT, Int.reduceToNat, Int.reduceLT, Int.reduceLE, reduceCtorEq]
    · simp only [go_sem, Int.reduceTMod, Int.reduceTDiv, Int.reduceDiv, Int.reduceMod, Int.reduceAdd, Int.reduceSub, Int.reduceMul, Int.reduceNeg, Int.reducePow, Int.reduceEq, ↓reduceIte, Nat.reduceEqDiff, Nat.reduceAdd, Nat.reduceMul, Nat.reduceLeDiff, Nat.reduceSub, Nat.reduceLT, Int.reduceToNat, Int.reduceLT, Int.reduceLE, reduceCtorEq]
    · simp only [go_sem, Int.reduceTMod, Int.reduceTDiv, Int.reduceDiv, Int.reduceMod, Int.reduceAdd, Int.reduceSub, Int.reduceMul, Int.reduceNeg, Int.reducePow, Int.reduceEq, ↓reduceIte, Nat.reduceEqDiff, Nat.reduceAdd, Nat.reduceMul, Nat.reduceLeDiff, Nat.reduceSub, Nat.reduceLT, Int.reduceToNat, Int.reduceLT, Int.reduceLE, reduceCtorEq]; omega
    · simp only [go_sem, Int.reduceTMod, Int.reduceTDiv, Int.reduceDiv, Int.reduceMod, Int.reduceAdd, Int.reduceSub, Int.reduceMul, Int.reduceNeg, Int.reducePow, Int.reduceEq, ↓reduceIte, Nat.reduceEqDiff, Nat.reduceAdd, Nat.reduceMul, Nat.reduceLeDiff, Nat.reduceSub, Nat.reduceLT, Int.reduceToNat, Int.reduceLT, Int.reduceLE, reduceCtorEq]
      intro id hid
      rw [hM0]
      simp only [go_sem, Int.reduceTMod, Int.reduceTDiv, Int.reduceDiv, Int.reduceMod, Int.reduceAdd, Int.reduceSub, Int.reduceMul, Int.reduceNeg, Int.reducePow, Int.reduceEq, ↓reduceIte, Nat.reduceEqDiff, Nat.reduceAdd, Nat.reduceMul, Nat.reduceLeDiff, Nat.reduceSub, Nat.reduceLT, Int.reduceToNat, Int.reduceLT, Int.reduceLE, reduceCtorEq]
      rw [if_neg (show ¬ id = n + 1 by omega), if_neg (show ¬ id = n + 1 by omega)]
    · simp only [go_sem, Int.reduceTMod, Int.reduceTDiv, Int.reduceDiv, Int.reduceMod, Int.reduceAdd, Int.reduceSub, Int.reduceMul, Int.reduceNeg, Int.reducePow, Int.reduceEq, ↓reduceIte, Nat.reduceEqDiff, Nat.reduceAdd, Nat.reduceMul, Nat.reduceLeDiff, Nat.reduceSub, Nat.reduceLT, Int.reduceToNat, Int.reduceLT, Int.reduceLE, reduceCtorEq]

end Go.Proofs.YtidpeongblkcbaaDoor.Sy
