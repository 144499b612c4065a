import Derived.Test.YtidpeongblkcbaaDoorMgH
/- What a pen leaves of a subpath: the reference's. Conditions: those that each theorem names. -/
namespace Go.Proofs.YtidpeongblkcbaaDoor.Sy
open Go Go.Proofs
set_option linter.unusedSimpArgs false
set_option linter.unusedVariables false
set_option maxRecDepth 20000
attribute [local go_sem] XK_seq XK_block XK_skip XK_exit XK_ret XK_cond XK_reg XK_dreg XK_ureg KN_seq KN_blk KN_lp KN_chk KN_chku KN_top KN_fin KX_seq KX_lp KX_blk KX_chk KX_top KR_seq KR_blk KR_lp KR_chk KR_top KR_fin FK_true FK_false RK_nil RK_mv RK_pick RK_alloc RK_box RK_build RK_bslice RK_load1 RK_loadA RK_store RK_nilchk RK_bin RK_beq RK_eqv RK_eqnil RK_un RK_conv RK_mkfn RK_mkslice RK_slS RK_slA RK_fadr RK_fld RK_iadrA RK_iadrS RK_idxA RK_ext RK_lenC RK_cap RK_app RK_cpy RK_mn RK_mx RK_len RK_carry RK_clr carryR um0 um1 ThenK_some RK_guard GK_tt GK_ff GK_tf GK_ft GK_none QK_some RK_callQ RK_callZ VK_clo RK_callV
  evalOp evO evOs upd_at unfrz_at putE_some putE_none boolOf_b boolOf_tup Option.map_some evRes pack_one pack_two pack_three pack_none List.getD_cons_zero List.getD_cons_succ getD_nil
  Option.some.injEq exists_eq_left' Reg.cs? fillC setL List.set_cons_zero List.set_cons_succ List.length_cons List.length_nil rd_upd rd_updn rdB wr List.drop_zero List.drop_succ_cons List.take_succ_cons List.take_zero List.getElem?_cons_zero List.getElem?_cons_succ
  ix Int.toNat_zero lenO_sl lenO_nil nadd na_eq na_eq' na_lt na_ee na_ll na_ne na_ne' na_tt
attribute [local go_sem] Reg.flat_one Reg.flat_agg Reg.flat_tup flats_nil flats_cons Cell.flat_sc Cell.flat_ptr List.all_cons List.all_nil disOk safeOk safeR decide_eq_true_eq decide_eq_false_iff_not
  List.map_cons List.map_nil List.cons_append List.nil_append List.append_nil evalOp.capsOf Bool.false_bne Bool.bne_false Bool.true_bne Bool.bne_true bne_self_eq_false beq_self_eq_true Bool.not_not Bool.false_and Bool.and_false Bool.true_or Bool.or_true beq_iff_eq eqCells
  Bool.true_beq Bool.false_beq Bool.not_eq_true' Bool.not_eq_eq_eq_not Bool.not_eq_false' and_false false_and frz_at idOf Option.isSome_some Bool.and_eq_true
attribute [local go_sem] wr_eq bV_add bV_sub bV_mul bV_eql bV_neq bV_lss bV_leq bV_gtr bV_geq bV_quo bV_rem bV_shr bV_shl uV_not uV_neg wrapU bits_and bits_or bits_xor IntKind.bits Nat.min_eq_left Nat.min_eq_right Nat.min_self
attribute [local go_sem] bne_iff_ne Int.cast_ofNat_Int Nat.zero_add Nat.add_zero and_self and_true true_and ne_eq not_false_eq_true not_true_eq_false decide_true decide_false Bool.false_eq_true Bool.not_true Bool.not_false Bool.true_and Bool.and_true Bool.or_false Bool.false_or Bool.and_self

def RStrokeQ (its : List (Bool × List Pt)) (n : Nat) (r' : Reg) (m' : Mem) (n' : Nat) : Prop :=
  ∃ x, r' = .tup [x, RB (its.all (·.1))] ∧ (its.all (·.1) = false → x = rnil) ∧ (its.all (·.1) = true → ∃ pid, n ≤ pid + 1 ∧ OPs pid pid pid m' n' x (its.map (·.2)))
theorem discs_okR (h : Int) (l : List Pt) (c : Bool) : ∀ i, ∀ x ∈ discsTo h l c i, x.1 = x.2.all inP
  | 0, x, hx => by cases hx
  | i + 1, x, hx => by
    rw [discsTo, List.mem_append] at hx
    rcases hx with hx | hx
    · exact discs_okR h l c i x hx
    · unfold discAt at hx
      split at hx
      · split at hx
        · rw [List.mem_singleton] at hx; subst hx; rfl
        · cases hx
      · cases hx
theorem barAt_l16 (h : Int) (l : List Pt) (i j : Nat) : ∀ x ∈ barAt h l i j, x.2.length < 4294967296 := fun x hx => by
  unfold barAt at hx
  split at hx
  · rw [List.mem_singleton] at hx; subst hx; show 4 < 4294967296; decide
  · cases hx
theorem bars_l16 (h : Int) (l : List Pt) : ∀ i, ∀ x ∈ barsTo h l i, x.2.length < 4294967296
  | 0, x, hx => by cases hx
  | i + 1, x, hx => by
    rw [barsTo, List.mem_append] at hx
    rcases hx with hx | hx
    · exact bars_l16 h l i x hx
    · exact barAt_l16 h l _ _ x hx
theorem discs_l16 (h : Int) (l : List Pt) (c : Bool) : ∀ i, ∀ x ∈ discsTo h l c i, x.2.length < 4294967296
  | 0, x, hx => by cases hx
  | i + 1, x, hx => by
    rw [discsTo, List.mem_append] at hx
    rcases hx with hx | hx
    · exact discs_l16 h l c i x hx
    · unfold discAt at hx
      split at hx
      · split at hx
        · rw [List.mem_singleton] at hx; subst hx; show 16 < 4294967296; decide
        · cases hx
      · cases hx
theorem along_l16 (h : Int) (l : List Pt) (c : Bool) : ∀ x ∈ alongI h l c, x.2.length < 4294967296 := fun x hx => by
  unfold alongI at hx
  rw [List.mem_append, List.mem_append] at hx
  rcases hx with (hx | hx) | hx
  · exact bars_l16 h l _ x hx
  · split at hx
    · exact barAt_l16 h l _ _ x hx
    · cases hx
  · exact discs_l16 h l c _ x hx
theorem all_okR {its : List (Bool × List Pt)} (h : ∀ x ∈ its, x.1 = x.2.all inP) : its.all (·.1) = (its.map (·.2)).all (·.all inP) := by
  induction its with
  | nil => rfl
  | cons x its ih =>
    rw [List.all_cons, List.map_cons, List.all_cons, h x (List.mem_cons_self ..), ih (fun y hy => h y (List.mem_cons_of_mem _ hy))]
theorem w_rStroke {r : Reg} {l : List Pt} {c : Bool} {h cap : Int} {m : Mem} {n : Nat} (hr : RPt m n r l) (hl : l.length < 1000000) (h0n : 0 < n) (h1 : 1 ≤ h) (h2 : h ≤ 32768) (k1 : 0 ≤ cap) (k2 : cap ≤ 2) (hi : l.all inP = true) :
    Fn TA 18 [r, RB c, RI h, RI cap] m n (RStrokeQ (strokeI (plainL l c) c h cap) n) := by
  refine Fn_ofK (fn := F18) rfl (by simp [F18]) ?_
  try simp only [r18_0, r18_1, r18_2, r18_3, r18_4, r18_5, r18_6, r18_7, r18_8, r18_9, r18_10, r18_12, r18_13, r18_14, r18_15, r18_16, r18_11, r18_17, r18_18, r18_20, r18_21, r18_19, r18_22, r18_23, r18_24, r18_25, r18_26, r18_27, r18_29, r18_30, r18_28, r18_31, c18, F18, go_sem, Int.reduceTMod, Int.reduceTDiv, Int.reduceDiv, Int.reduceMod, Int.reduceAdd, Int.reduceSub, Int.reduceMul, Int.reduceNeg, Int.reducePow, Int.reduceEq, ↓reduceIte, Nat.reduceEqDiff, Nat.reduceAdd, Nat.reduceMul, Nat.reduceLeDiff, Nat.reduceSub, Nat.reduceLT, Int.reduceToNat, Int.reduceLT, Int.reduceLE, reduceCtorEq]
  repeat' ((first | refine FK_split (fun h_ => ?_) (fun h_ => ?_) | refine GK_split (fun h_ => ?_) (fun h_ => ?_) | refine ite_both (fun h_ => ?_) (fun h_ => ?_)) <;> (try simp only [decide_eq_true_eq, decide_eq_false_iff_not, Bool.not_true, Bool.not_false, Bool.not_eq_true', Bool.not_eq_false', Bool.not_eq_eq_eq_not, Decidable.not_not] at h_) <;> (try simp only [r18_0, r18_1, r18_2, r18_3, r18_4, r18_5, r18_6, r18_7, r18_8, r18_9, r18_10, r18_12, r18_13, r18_14, r18_15, r18_16, r18_11, r18_17, r18_18, r18_20, r18_21, r18_19, r18_22, r18_23, r18_24, r18_25, r18_26, r18_27, r18_29, r18_30, r18_28, r18_31, c18, F18, h_, go_sem, Int.reduceTMod, Int.reduceTDiv, Int.reduceDiv, Int.reduceMod, Int.reduceAdd, Int.reduceSub, Int.reduceMul, Int.reduceNeg, Int.reducePow, Int.reduceEq, ↓reduceIte, Nat.reduceEqDiff, Nat.reduceAdd, Nat.reduceMul, Nat.reduceLeDiff, Nat.reduceSub, Nat.reduceLT, Int.reduceToNat, Int.reduceLT, Int.reduceLE, reduceCtorEq]))
  refine RK_callk ?_
  refine (w_PlainC c r l _ _ hr.frz (by omega)).mono ?_
  rintro r1 m1 n1 ⟨hn1, hr1, hs1⟩
  obtain ⟨M, hM⟩ : ∃ M, M = unfrz m n m1 := ⟨_, rfl⟩
  rw [← hM, show max n n1 = n1 by omega]
  have hr2 : RPt M n1 r1 (plainL l c) := hr1.keep' (Nat.le_refl _) (fun id hid => by rw [hM, unfrz_at, if_neg (by have := hs1 id hid; omega)])
  have hpl := plain_len l c
  have hal := plain_all (c := c) hi
  have hadj := @plain_adj l c
  have hends : c = true → 1 < (plainL l c).length → (plainL l c)[(plainL l c).length - 1]? ≠ (plainL l c)[0]? := fun hc hlt => by subst hc; exact plain_ends hlt
  generalize hq : plainL l c = q at *
  have hlen := hr2.len
  rcases (show q.length = 0 ∨ q.length = 1 ∨ 1 < q.length by omega) with z | z | z
  · have hs : strokeI q c h cap = [] := by unfold strokeI; rw [if_neg (by omega), if_neg (by omega)]
    have c1 : ((q.length : Int) = 1) = False := eq_false (by omega)
    have c2 : (1 < (q.length : Int)) = False := eq_false (by omega)
    have hln : lenO (.one (.sc (.slice none 0 0))) = some 0 := rfl
    try simp only [r18_0, r18_1, r18_2, r18_3, r18_4, r18_5, r18_6, r18_7, r18_8, r18_9, r18_10, r18_12, r18_13, r18_14, r18_15, r18_16, r18_11, r18_17, r18_18, r18_20, r18_21, r18_19, r18_22, r18_23, r18_24, r18_25, r18_26, r18_27, r18_29, r18_30, r18_28, r18_31, c18, F18, l18_0, l18_1, l18_2, hlen, hln, c1, c2, XK_loop, go_sem, Int.reduceTMod, Int.reduceTDiv, Int.reduceDiv, Int.reduceMod, Int.reduceAdd, Int.reduceSub, Int.reduceMul, Int.reduceNeg, Int.reducePow, Int.reduceEq, ↓reduceIte, Nat.reduceEqDiff, Nat.reduceAdd, Nat.reduceMul, Nat.reduceLeDiff, Nat.reduceSub, Nat.reduceLT, Int.reduceToNat, Int.reduceLT, Int.reduceLE, reduceCtorEq]
    repeat' ((first | refine FK_split (fun h_ => ?_) (fun h_ => ?_) | refine GK_split (fun h_ => ?_) (fun h_ => ?_) | refine ite_both (fun h_ => ?_) (fun h_ => ?_)) <;> (try simp only [decide_eq_true_eq, decide_eq_false_iff_not, Bool.not_true, Bool.not_false, Bool.not_eq_true', Bool.not_eq_false', Bool.not_eq_eq_eq_not, Decidable.not_not] at h_) <;> (try simp only [r18_0, r18_1, r18_2, r18_3, r18_4, r18_5, r18_6, r18_7, r18_8, r18_9, r18_10, r18_12, r18_13, r18_14, r18_15, r18_16, r18_11, r18_17, r18_18, r18_20, r18_21, r18_19, r18_22, r18_23, r18_24, r18_25, r18_26, r18_27, r18_29, r18_30, r18_28, r18_31, c18, F18, l18_0, l18_1, l18_2, hlen, hln, c1, c2, XK_loop, h_, go_sem, Int.reduceTMod, Int.reduceTDiv, Int.reduceDiv, Int.reduceMod, Int.reduceAdd, Int.reduceSub, Int.reduceMul, Int.reduceNeg, Int.reducePow, Int.reduceEq, ↓reduceIte, Nat.reduceEqDiff, Nat.reduceAdd, Nat.reduceMul, Nat.reduceLeDiff, Nat.reduceSub, Nat.reduceLT, Int.reduceToNat, Int.reduceLT, Int.reduceLE, reduceCtorEq]))
    rw [hs]
    exact ⟨rnil, rfl, fun _ => rfl, fun _ => ⟨n1, by omega, OPs.nil⟩⟩
  · have hp : q[0]? = some (q[0]'(by omega)) := List.getElem?_eq_getElem (by omega)
    obtain ⟨id, off, cap', hra, hid, hrd⟩ := hr2.at cs2 hp
    have ip := all_at hal hp
    rw [Nat.zero_mul, Nat.add_zero] at hrd
    have c1 : ((q.length : Int) = 1) = True := eq_true (by omega)
    have c2 : (1 < (q.length : Int)) = False := eq_false (by omega)
    have c3 : ((0 : Int) < (q.length : Int)) = True := eq_true (by omega)
    have hs : strokeI q c h cap = (if cap = 1 then [discI h (q[0]'(by omega))] else if cap = 2 then [sqI h (q[0]'(by omega))] else []) := by
      unfold strokeI; rw [if_pos z]; unfold at1; rw [hp]
    generalize (q[0]'(by omega)) = u at *
    have hln : lenO (.one (.sc (.slice none 0 0))) = some 0 := rfl
    rcases (show cap = 0 ∨ cap = 1 ∨ cap = 2 by omega) with rfl | rfl | rfl
    · rw [if_neg (by decide), if_neg (by decide)] at hs
      try simp only [r18_0, r18_1, r18_2, r18_3, r18_4, r18_5, r18_6, r18_7, r18_8, r18_9, r18_10, r18_12, r18_13, r18_14, r18_15, r18_16, r18_11, r18_17, r18_18, r18_20, r18_21, r18_19, r18_22, r18_23, r18_24, r18_25, r18_26, r18_27, r18_29, r18_30, r18_28, r18_31, c18, F18, l18_0, l18_1, l18_2, hlen, hln, c1, c2, XK_loop, go_sem, Int.reduceTMod, Int.reduceTDiv, Int.reduceDiv, Int.reduceMod, Int.reduceAdd, Int.reduceSub, Int.reduceMul, Int.reduceNeg, Int.reducePow, Int.reduceEq, ↓reduceIte, Nat.reduceEqDiff, Nat.reduceAdd, Nat.reduceMul, Nat.reduceLeDiff, Nat.reduceSub, Nat.reduceLT, Int.reduceToNat, Int.reduceLT, Int.reduceLE, reduceCtorEq]
      repeat' ((first | refine FK_split (fun h_ => ?_) (fun h_ => ?_) | refine GK_split (fun h_ => ?_) (fun h_ => ?_) | refine ite_both (fun h_ => ?_) (fun h_ => ?_)) <;> (try simp only [decide_eq_true_eq, decide_eq_false_iff_not, Bool.not_true, Bool.not_false, Bool.not_eq_true', Bool.not_eq_false', Bool.not_eq_eq_eq_not, Decidable.not_not] at h_) <;> (try simp only [r18_0, r18_1, r18_2, r18_3, r18_4, r18_5, r18_6, r18_7, r18_8, r18_9, r18_10, r18_12, r18_13, r18_14, r18_15, r18_16, r18_11, r18_17, r18_18, r18_20, r18_21, r18_19, r18_22, r18_23, r18_24, r18_25, r18_26, r18_27, r18_29, r18_30, r18_28, r18_31, c18, F18, l18_0, l18_1, l18_2, hlen, hln, c1, c2, XK_loop, h_, go_sem, Int.reduceTMod, Int.reduceTDiv, Int.reduceDiv, Int.reduceMod, Int.reduceAdd, Int.reduceSub, Int.reduceMul, Int.reduceNeg, Int.reducePow, Int.reduceEq, ↓reduceIte, Nat.reduceEqDiff, Nat.reduceAdd, Nat.reduceMul, Nat.reduceLeDiff, Nat.reduceSub, Nat.reduceLT, Int.reduceToNat, Int.reduceLT, Int.reduceLE, reduceCtorEq]))
      rw [hs]
      exact ⟨rnil, rfl, fun _ => rfl, fun _ => ⟨n1, by omega, OPs.nil⟩⟩
    · rw [if_pos rfl] at hs
      rw [hra]
      try simp only [r18_0, r18_1, r18_2, r18_3, r18_4, r18_5, r18_6, r18_7, r18_8, r18_9, r18_10, r18_12, r18_13, r18_14, r18_15, r18_16, r18_11, r18_17, r18_18, r18_20, r18_21, r18_19, r18_22, r18_23, r18_24, r18_25, r18_26, r18_27, r18_29, r18_30, r18_28, r18_31, c18, F18, l18_0, l18_1, l18_2, lenO, c1, c2, c3, hrd, Int.toNat_zero, Int.reduceToNat, Nat.zero_mul, Nat.add_zero, go_sem, Int.reduceTMod, Int.reduceTDiv, Int.reduceDiv, Int.reduceMod, Int.reduceAdd, Int.reduceSub, Int.reduceMul, Int.reduceNeg, Int.reducePow, Int.reduceEq, ↓reduceIte, Nat.reduceEqDiff, Nat.reduceAdd, Nat.reduceMul, Nat.reduceLeDiff, Nat.reduceSub, Nat.reduceLT, Int.reduceToNat, Int.reduceLT, Int.reduceLE, reduceCtorEq]
      repeat' ((first | refine FK_split (fun h_ => ?_) (fun h_ => ?_) | refine GK_split (fun h_ => ?_) (fun h_ => ?_) | refine ite_both (fun h_ => ?_) (fun h_ => ?_)) <;> (try simp only [decide_eq_true_eq, decide_eq_false_iff_not, Bool.not_true, Bool.not_false, Bool.not_eq_true', Bool.not_eq_false', Bool.not_eq_eq_eq_not, Decidable.not_not] at h_) <;> (try simp only [r18_0, r18_1, r18_2, r18_3, r18_4, r18_5, r18_6, r18_7, r18_8, r18_9, r18_10, r18_12, r18_13, r18_14, r18_15, r18_16, r18_11, r18_17, r18_18, r18_20, r18_21, r18_19, r18_22, r18_23, r18_24, r18_25, r18_26, r18_27, r18_29, r18_30, r18_28, r18_31, c18, F18, l18_0, l18_1, l18_2, lenO, c1, c2, c3, hrd, Int.toNat_zero, Int.reduceToNat, Nat.zero_mul, Nat.add_zero, h_, go_sem, Int.reduceTMod, Int.reduceTDiv, Int.reduceDiv, Int.reduceMod, Int.reduceAdd, Int.reduceSub, Int.reduceMul, Int.reduceNeg, Int.reducePow, Int.reduceEq, ↓reduceIte, Nat.reduceEqDiff, Nat.reduceAdd, Nat.reduceMul, Nat.reduceLeDiff, Nat.reduceSub, Nat.reduceLT, Int.reduceToNat, Int.reduceLT, Int.reduceLE, reduceCtorEq]))
      refine RK_callk ?_
      refine (w_rDiscP ip h1 h2 _ _).mono ?_
      rintro r3 m3 n3 ⟨hn3, x, rfl, hx, hxi⟩
      obtain ⟨hO2, hx2, hx3⟩ := row_after (p := n1 - 1) (ls := []) (OPs.nil (m := M) (n := n1)) (by omega) hx hxi
      try simp only [r18_0, r18_1, r18_2, r18_3, r18_4, r18_5, r18_6, r18_7, r18_8, r18_9, r18_10, r18_12, r18_13, r18_14, r18_15, r18_16, r18_11, r18_17, r18_18, r18_20, r18_21, r18_19, r18_22, r18_23, r18_24, r18_25, r18_26, r18_27, r18_29, r18_30, r18_28, r18_31, c18, F18, go_sem, Int.reduceTMod, Int.reduceTDiv, Int.reduceDiv, Int.reduceMod, Int.reduceAdd, Int.reduceSub, Int.reduceMul, Int.reduceNeg, Int.reducePow, Int.reduceEq, ↓reduceIte, Nat.reduceEqDiff, Nat.reduceAdd, Nat.reduceMul, Nat.reduceLeDiff, Nat.reduceSub, Nat.reduceLT, Int.reduceToNat, Int.reduceLT, Int.reduceLE, reduceCtorEq]
      repeat' ((first | refine FK_split (fun h_ => ?_) (fun h_ => ?_) | refine GK_split (fun h_ => ?_) (fun h_ => ?_) | refine ite_both (fun h_ => ?_) (fun h_ => ?_)) <;> (try simp only [decide_eq_true_eq, decide_eq_false_iff_not, Bool.not_true, Bool.not_false, Bool.not_eq_true', Bool.not_eq_false', Bool.not_eq_eq_eq_not, Decidable.not_not] at h_) <;> (try simp only [r18_0, r18_1, r18_2, r18_3, r18_4, r18_5, r18_6, r18_7, r18_8, r18_9, r18_10, r18_12, r18_13, r18_14, r18_15, r18_16, r18_11, r18_17, r18_18, r18_20, r18_21, r18_19, r18_22, r18_23, r18_24, r18_25, r18_26, r18_27, r18_29, r18_30, r18_28, r18_31, c18, F18, h_, go_sem, Int.reduceTMod, Int.reduceTDiv, Int.reduceDiv, Int.reduceMod, Int.reduceAdd, Int.reduceSub, Int.reduceMul, Int.reduceNeg, Int.reducePow, Int.reduceEq, ↓reduceIte, Nat.reduceEqDiff, Nat.reduceAdd, Nat.reduceMul, Nat.reduceLeDiff, Nat.reduceSub, Nat.reduceLT, Int.reduceToNat, Int.reduceLT, Int.reduceLE, reduceCtorEq]))
      refine row_push hO2 (by omega) hx2 hx3 (by decide) ?_
      intro c' m' hO3 hf
      try simp only [r18_0, r18_1, r18_2, r18_3, r18_4, r18_5, r18_6, r18_7, r18_8, r18_9, r18_10, r18_12, r18_13, r18_14, r18_15, r18_16, r18_11, r18_17, r18_18, r18_20, r18_21, r18_19, r18_22, r18_23, r18_24, r18_25, r18_26, r18_27, r18_29, r18_30, r18_28, r18_31, c18, F18, l18_0, l18_1, l18_2, c1, c2, lenO, go_sem, Int.reduceTMod, Int.reduceTDiv, Int.reduceDiv, Int.reduceMod, Int.reduceAdd, Int.reduceSub, Int.reduceMul, Int.reduceNeg, Int.reducePow, Int.reduceEq, ↓reduceIte, Nat.reduceEqDiff, Nat.reduceAdd, Nat.reduceMul, Nat.reduceLeDiff, Nat.reduceSub, Nat.reduceLT, Int.reduceToNat, Int.reduceLT, Int.reduceLE, reduceCtorEq]
      repeat' ((first | refine FK_split (fun h_ => ?_) (fun h_ => ?_) | refine GK_split (fun h_ => ?_) (fun h_ => ?_) | refine ite_both (fun h_ => ?_) (fun h_ => ?_)) <;> (try simp only [decide_eq_true_eq, decide_eq_false_iff_not, Bool.not_true, Bool.not_false, Bool.not_eq_true', Bool.not_eq_false', Bool.not_eq_eq_eq_not, Decidable.not_not] at h_) <;> (try simp only [r18_0, r18_1, r18_2, r18_3, r18_4, r18_5, r18_6, r18_7, r18_8, r18_9, r18_10, r18_12, r18_13, r18_14, r18_15, r18_16, r18_11, r18_17, r18_18, r18_20, r18_21, r18_19, r18_22, r18_23, r18_24, r18_25, r18_26, r18_27, r18_29, r18_30, r18_28, r18_31, c18, F18, l18_0, l18_1, l18_2, c1, c2, lenO, h_, go_sem, Int.reduceTMod, Int.reduceTDiv, Int.reduceDiv, Int.reduceMod, Int.reduceAdd, Int.reduceSub, Int.reduceMul, Int.reduceNeg, Int.reducePow, Int.reduceEq, ↓reduceIte, Nat.reduceEqDiff, Nat.reduceAdd, Nat.reduceMul, Nat.reduceLeDiff, Nat.reduceSub, Nat.reduceLT, Int.reduceToNat, Int.reduceLT, Int.reduceLE, reduceCtorEq]))
      rw [XK_loop]
      try simp only [r18_0, r18_1, r18_2, r18_3, r18_4, r18_5, r18_6, r18_7, r18_8, r18_9, r18_10, r18_12, r18_13, r18_14, r18_15, r18_16, r18_11, r18_17, r18_18, r18_20, r18_21, r18_19, r18_22, r18_23, r18_24, r18_25, r18_26, r18_27, r18_29, r18_30, r18_28, r18_31, c18, F18, l18_0, l18_1, l18_2, c1, c2, go_sem, Int.reduceTMod, Int.reduceTDiv, Int.reduceDiv, Int.reduceMod, Int.reduceAdd, Int.reduceSub, Int.reduceMul, Int.reduceNeg, Int.reducePow, Int.reduceEq, ↓reduceIte, Nat.reduceEqDiff, Nat.reduceAdd, Nat.reduceMul, Nat.reduceLeDiff, Nat.reduceSub, Nat.reduceLT, Int.reduceToNat, Int.reduceLT, Int.reduceLE, reduceCtorEq]
      repeat' ((first | refine FK_split (fun h_ => ?_) (fun h_ => ?_) | refine GK_split (fun h_ => ?_) (fun h_ => ?_) | refine ite_both (fun h_ => ?_) (fun h_ => ?_)) <;> (try simp only [decide_eq_true_eq, decide_eq_false_iff_not, Bool.not_true, Bool.not_false, Bool.not_eq_true', Bool.not_eq_false', Bool.not_eq_eq_eq_not, Decidable.not_not] at h_) <;> (try simp only [r18_0, r18_1, r18_2, r18_3, r18_4, r18_5, r18_6, r18_7, r18_8, r18_9, r18_10, r18_12, r18_13, r18_14, r18_15, r18_16, r18_11, r18_17, r18_18, r18_20, r18_21, r18_19, r18_22, r18_23, r18_24, r18_25, r18_26, r18_27, r18_29, r18_30, r18_28, r18_31, c18, F18, l18_0, l18_1, l18_2, c1, c2, h_, go_sem, Int.reduceTMod, Int.reduceTDiv, Int.reduceDiv, Int.reduceMod, Int.reduceAdd, Int.reduceSub, Int.reduceMul, Int.reduceNeg, Int.reducePow, Int.reduceEq, ↓reduceIte, Nat.reduceEqDiff, Nat.reduceAdd, Nat.reduceMul, Nat.reduceLeDiff, Nat.reduceSub, Nat.reduceLT, Int.reduceToNat, Int.reduceLT, Int.reduceLE, reduceCtorEq]))
      rw [XK_loop]
      try simp only [r18_0, r18_1, r18_2, r18_3, r18_4, r18_5, r18_6, r18_7, r18_8, r18_9, r18_10, r18_12, r18_13, r18_14, r18_15, r18_16, r18_11, r18_17, r18_18, r18_20, r18_21, r18_19, r18_22, r18_23, r18_24, r18_25, r18_26, r18_27, r18_29, r18_30, r18_28, r18_31, c18, F18, l18_0, l18_1, l18_2, c1, c2, go_sem, Int.reduceTMod, Int.reduceTDiv, Int.reduceDiv, Int.reduceMod, Int.reduceAdd, Int.reduceSub, Int.reduceMul, Int.reduceNeg, Int.reducePow, Int.reduceEq, ↓reduceIte, Nat.reduceEqDiff, Nat.reduceAdd, Nat.reduceMul, Nat.reduceLeDiff, Nat.reduceSub, Nat.reduceLT, Int.reduceToNat, Int.reduceLT, Int.reduceLE, reduceCtorEq]
      repeat' ((first | refine FK_split (fun h_ => ?_) (fun h_ => ?_) | refine GK_split (fun h_ => ?_) (fun h_ => ?_) | refine ite_both (fun h_ => ?_) (fun h_ => ?_)) <;> (try simp only [decide_eq_true_eq, decide_eq_false_iff_not, Bool.not_true, Bool.not_false, Bool.not_eq_true', Bool.not_eq_false', Bool.not_eq_eq_eq_not, Decidable.not_not] at h_) <;> (try simp only [r18_0, r18_1, r18_2, r18_3, r18_4, r18_5, r18_6, r18_7, r18_8, r18_9, r18_10, r18_12, r18_13, r18_14, r18_15, r18_16, r18_11, r18_17, r18_18, r18_20, r18_21, r18_19, r18_22, r18_23, r18_24, r18_25, r18_26, r18_27, r18_29, r18_30, r18_28, r18_31, c18, F18, l18_0, l18_1, l18_2, c1, c2, h_, go_sem, Int.reduceTMod, Int.reduceTDiv, Int.reduceDiv, Int.reduceMod, Int.reduceAdd, Int.reduceSub, Int.reduceMul, Int.reduceNeg, Int.reducePow, Int.reduceEq, ↓reduceIte, Nat.reduceEqDiff, Nat.reduceAdd, Nat.reduceMul, Nat.reduceLeDiff, Nat.reduceSub, Nat.reduceLT, Int.reduceToNat, Int.reduceLT, Int.reduceLE, reduceCtorEq]))
      have hr1' : strokeI q c h 1 = [discI h u] := hs
      have e1 : (strokeI q c h 1).map (·.2) = [] ++ [disc u.x u.y h] := by rw [hr1']; rfl
      have e2 : (strokeI q c h 1).all (·.1) = (disc u.x u.y h).all inP := by rw [hr1']; simp [discI]
      refine rroom_loop hO3 (by simp) (fun l hl => ?_) ?_ ?_ (fun ha s a b d f => ?_) (fun ha s d f g => ?_)
      · simp only [List.nil_append, List.mem_singleton] at hl
        rw [hl]
        show 16 < 4294967296
        decide
      · simp only [go_sem, Int.reduceTMod, Int.reduceTDiv, Int.reduceDiv, Int.reduceMod, Int.reduceAdd, Int.reduceSub, Int.reduceMul, Int.reduceNeg, Int.reducePow, Int.reduceEq, ↓reduceIte, Nat.reduceEqDiff, Nat.reduceAdd, Nat.reduceMul, Nat.reduceLeDiff, Nat.reduceSub, Nat.reduceLT, Int.reduceToNat, Int.reduceLT, Int.reduceLE, reduceCtorEq]
      · simp only [go_sem, Int.reduceTMod, Int.reduceTDiv, Int.reduceDiv, Int.reduceMod, Int.reduceAdd, Int.reduceSub, Int.reduceMul, Int.reduceNeg, Int.reducePow, Int.reduceEq, ↓reduceIte, Nat.reduceEqDiff, Nat.reduceAdd, Nat.reduceMul, Nat.reduceLeDiff, Nat.reduceSub, Nat.reduceLT, Int.reduceToNat, Int.reduceLT, Int.reduceLE, reduceCtorEq]
      · skip
        try simp only [a, b, go_sem, Int.reduceTMod, Int.reduceTDiv, Int.reduceDiv, Int.reduceMod, Int.reduceAdd, Int.reduceSub, Int.reduceMul, Int.reduceNeg, Int.reducePow, Int.reduceEq, ↓reduceIte, Nat.reduceEqDiff, Nat.reduceAdd, Nat.reduceMul, Nat.reduceLeDiff, Nat.reduceSub, Nat.reduceLT, Int.reduceToNat, Int.reduceLT, Int.reduceLE, reduceCtorEq]
        repeat' ((first | refine FK_split (fun h_ => ?_) (fun h_ => ?_) | refine GK_split (fun h_ => ?_) (fun h_ => ?_) | refine ite_both (fun h_ => ?_) (fun h_ => ?_)) <;> (try simp only [decide_eq_true_eq, decide_eq_false_iff_not, Bool.not_true, Bool.not_false, Bool.not_eq_true', Bool.not_eq_false', Bool.not_eq_eq_eq_not, Decidable.not_not] at h_) <;> (try simp only [a, b, h_, go_sem, Int.reduceTMod, Int.reduceTDiv, Int.reduceDiv, Int.reduceMod, Int.reduceAdd, Int.reduceSub, Int.reduceMul, Int.reduceNeg, Int.reducePow, Int.reduceEq, ↓reduceIte, Nat.reduceEqDiff, Nat.reduceAdd, Nat.reduceMul, Nat.reduceLeDiff, Nat.reduceSub, Nat.reduceLT, Int.reduceToNat, Int.reduceLT, Int.reduceLE, reduceCtorEq]))
        refine ⟨rnil, ?_, fun _ => rfl, fun h => ?_⟩
        · rw [e2]
          simp only [List.nil_append, List.all_cons, List.all_nil, Bool.and_true] at ha
          rw [ha]
        · rw [e2] at h
          simp only [List.nil_append, List.all_cons, List.all_nil, Bool.and_true] at ha
          rw [ha] at h; cases h
      · skip
        try simp only [r18_0, r18_1, r18_2, r18_3, r18_4, r18_5, r18_6, r18_7, r18_8, r18_9, r18_10, r18_12, r18_13, r18_14, r18_15, r18_16, r18_11, r18_17, r18_18, r18_20, r18_21, r18_19, r18_22, r18_23, r18_24, r18_25, r18_26, r18_27, r18_29, r18_30, r18_28, r18_31, c18, F18, g, go_sem, Int.reduceTMod, Int.reduceTDiv, Int.reduceDiv, Int.reduceMod, Int.reduceAdd, Int.reduceSub, Int.reduceMul, Int.reduceNeg, Int.reducePow, Int.reduceEq, ↓reduceIte, Nat.reduceEqDiff, Nat.reduceAdd, Nat.reduceMul, Nat.reduceLeDiff, Nat.reduceSub, Nat.reduceLT, Int.reduceToNat, Int.reduceLT, Int.reduceLE, reduceCtorEq]
        repeat' ((first | refine FK_split (fun h_ => ?_) (fun h_ => ?_) | refine GK_split (fun h_ => ?_) (fun h_ => ?_) | refine ite_both (fun h_ => ?_) (fun h_ => ?_)) <;> (try simp only [decide_eq_true_eq, decide_eq_false_iff_not, Bool.not_true, Bool.not_false, Bool.not_eq_true', Bool.not_eq_false', Bool.not_eq_eq_eq_not, Decidable.not_not] at h_) <;> (try simp only [r18_0, r18_1, r18_2, r18_3, r18_4, r18_5, r18_6, r18_7, r18_8, r18_9, r18_10, r18_12, r18_13, r18_14, r18_15, r18_16, r18_11, r18_17, r18_18, r18_20, r18_21, r18_19, r18_22, r18_23, r18_24, r18_25, r18_26, r18_27, r18_29, r18_30, r18_28, r18_31, c18, F18, g, h_, go_sem, Int.reduceTMod, Int.reduceTDiv, Int.reduceDiv, Int.reduceMod, Int.reduceAdd, Int.reduceSub, Int.reduceMul, Int.reduceNeg, Int.reducePow, Int.reduceEq, ↓reduceIte, Nat.reduceEqDiff, Nat.reduceAdd, Nat.reduceMul, Nat.reduceLeDiff, Nat.reduceSub, Nat.reduceLT, Int.reduceToNat, Int.reduceLT, Int.reduceLE, reduceCtorEq]))
        simp only [List.nil_append, List.all_cons, List.all_nil, Bool.and_true] at ha
        exact ⟨.one c', by rw [e2, ha], fun h => (by rw [e2, ha] at h; cases h), fun _ => ⟨n1 - 1, by omega, by rw [e1, d, f]; exact hO3⟩⟩
    · rw [if_neg (by decide), if_pos rfl] at hs
      rw [hra]
      have hin' := inP_iff.1 (show inP ⟨u.x, u.y⟩ = true from ip)
      have w1 : IntKind.i64.wrap (u.x - h) = u.x - h := wr_eq (by omega) (by omega)
      have w2 : IntKind.i64.wrap (u.x + h) = u.x + h := wr_eq (by omega) (by omega)
      have w3 : IntKind.i64.wrap (u.y - h) = u.y - h := wr_eq (by omega) (by omega)
      have w4 : IntKind.i64.wrap (u.y + h) = u.y + h := wr_eq (by omega) (by omega)
      try simp only [r18_0, r18_1, r18_2, r18_3, r18_4, r18_5, r18_6, r18_7, r18_8, r18_9, r18_10, r18_12, r18_13, r18_14, r18_15, r18_16, r18_11, r18_17, r18_18, r18_20, r18_21, r18_19, r18_22, r18_23, r18_24, r18_25, r18_26, r18_27, r18_29, r18_30, r18_28, r18_31, c18, F18, l18_0, l18_1, l18_2, lenO, c1, c2, c3, hrd, w1, w2, w3, w4, Int.toNat_zero, Int.reduceToNat, Nat.zero_mul, Nat.add_zero, go_sem, Int.reduceTMod, Int.reduceTDiv, Int.reduceDiv, Int.reduceMod, Int.reduceAdd, Int.reduceSub, Int.reduceMul, Int.reduceNeg, Int.reducePow, Int.reduceEq, ↓reduceIte, Nat.reduceEqDiff, Nat.reduceAdd, Nat.reduceMul, Nat.reduceLeDiff, Nat.reduceSub, Nat.reduceLT, Int.reduceToNat, Int.reduceLT, Int.reduceLE, reduceCtorEq]
      repeat' ((first | refine FK_split (fun h_ => ?_) (fun h_ => ?_) | refine GK_split (fun h_ => ?_) (fun h_ => ?_) | refine ite_both (fun h_ => ?_) (fun h_ => ?_)) <;> (try simp only [decide_eq_true_eq, decide_eq_false_iff_not, Bool.not_true, Bool.not_false, Bool.not_eq_true', Bool.not_eq_false', Bool.not_eq_eq_eq_not, Decidable.not_not] at h_) <;> (try simp only [r18_0, r18_1, r18_2, r18_3, r18_4, r18_5, r18_6, r18_7, r18_8, r18_9, r18_10, r18_12, r18_13, r18_14, r18_15, r18_16, r18_11, r18_17, r18_18, r18_20, r18_21, r18_19, r18_22, r18_23, r18_24, r18_25, r18_26, r18_27, r18_29, r18_30, r18_28, r18_31, c18, F18, l18_0, l18_1, l18_2, lenO, c1, c2, c3, hrd, w1, w2, w3, w4, Int.toNat_zero, Int.reduceToNat, Nat.zero_mul, Nat.add_zero, h_, go_sem, Int.reduceTMod, Int.reduceTDiv, Int.reduceDiv, Int.reduceMod, Int.reduceAdd, Int.reduceSub, Int.reduceMul, Int.reduceNeg, Int.reducePow, Int.reduceEq, ↓reduceIte, Nat.reduceEqDiff, Nat.reduceAdd, Nat.reduceMul, Nat.reduceLeDiff, Nat.reduceSub, Nat.reduceLT, Int.reduceToNat, Int.reduceLT, Int.reduceLE, reduceCtorEq]))
      refine row_push (p := n1 - 1) (ls := []) (l := sqP u h) OPs.nil (by omega) (Or.inr ⟨n1 + 1, 0, some 4, rfl, by omega, ?_⟩) (fun id hid => ?_) (by decide) ?_
      · show rd _ (n1 + 1) 0 8 = _
        simp only [sqP, Pt.cs, List.flatMap_cons, List.flatMap_nil, go_sem, Int.reduceTMod, Int.reduceTDiv, Int.reduceDiv, Int.reduceMod, Int.reduceAdd, Int.reduceSub, Int.reduceMul, Int.reduceNeg, Int.reducePow, Int.reduceEq, ↓reduceIte, Nat.reduceEqDiff, Nat.reduceAdd, Nat.reduceMul, Nat.reduceLeDiff, Nat.reduceSub, Nat.reduceLT, Int.reduceToNat, Int.reduceLT, Int.reduceLE, reduceCtorEq]
      · simp only [sid, Option.some.injEq] at hid
        exact ⟨by omega, fun e => by cases e⟩
      intro c' m' hO3 hf
      try simp only [r18_0, r18_1, r18_2, r18_3, r18_4, r18_5, r18_6, r18_7, r18_8, r18_9, r18_10, r18_12, r18_13, r18_14, r18_15, r18_16, r18_11, r18_17, r18_18, r18_20, r18_21, r18_19, r18_22, r18_23, r18_24, r18_25, r18_26, r18_27, r18_29, r18_30, r18_28, r18_31, c18, F18, l18_0, l18_1, l18_2, c1, c2, lenO, go_sem, Int.reduceTMod, Int.reduceTDiv, Int.reduceDiv, Int.reduceMod, Int.reduceAdd, Int.reduceSub, Int.reduceMul, Int.reduceNeg, Int.reducePow, Int.reduceEq, ↓reduceIte, Nat.reduceEqDiff, Nat.reduceAdd, Nat.reduceMul, Nat.reduceLeDiff, Nat.reduceSub, Nat.reduceLT, Int.reduceToNat, Int.reduceLT, Int.reduceLE, reduceCtorEq]
      repeat' ((first | refine FK_split (fun h_ => ?_) (fun h_ => ?_) | refine GK_split (fun h_ => ?_) (fun h_ => ?_) | refine ite_both (fun h_ => ?_) (fun h_ => ?_)) <;> (try simp only [decide_eq_true_eq, decide_eq_false_iff_not, Bool.not_true, Bool.not_false, Bool.not_eq_true', Bool.not_eq_false', Bool.not_eq_eq_eq_not, Decidable.not_not] at h_) <;> (try simp only [r18_0, r18_1, r18_2, r18_3, r18_4, r18_5, r18_6, r18_7, r18_8, r18_9, r18_10, r18_12, r18_13, r18_14, r18_15, r18_16, r18_11, r18_17, r18_18, r18_20, r18_21, r18_19, r18_22, r18_23, r18_24, r18_25, r18_26, r18_27, r18_29, r18_30, r18_28, r18_31, c18, F18, l18_0, l18_1, l18_2, c1, c2, lenO, h_, go_sem, Int.reduceTMod, Int.reduceTDiv, Int.reduceDiv, Int.reduceMod, Int.reduceAdd, Int.reduceSub, Int.reduceMul, Int.reduceNeg, Int.reducePow, Int.reduceEq, ↓reduceIte, Nat.reduceEqDiff, Nat.reduceAdd, Nat.reduceMul, Nat.reduceLeDiff, Nat.reduceSub, Nat.reduceLT, Int.reduceToNat, Int.reduceLT, Int.reduceLE, reduceCtorEq]))
      rw [XK_loop]
      try simp only [r18_0, r18_1, r18_2, r18_3, r18_4, r18_5, r18_6, r18_7, r18_8, r18_9, r18_10, r18_12, r18_13, r18_14, r18_15, r18_16, r18_11, r18_17, r18_18, r18_20, r18_21, r18_19, r18_22, r18_23, r18_24, r18_25, r18_26, r18_27, r18_29, r18_30, r18_28, r18_31, c18, F18, l18_0, l18_1, l18_2, c1, c2, go_sem, Int.reduceTMod, Int.reduceTDiv, Int.reduceDiv, Int.reduceMod, Int.reduceAdd, Int.reduceSub, Int.reduceMul, Int.reduceNeg, Int.reducePow, Int.reduceEq, ↓reduceIte, Nat.reduceEqDiff, Nat.reduceAdd, Nat.reduceMul, Nat.reduceLeDiff, Nat.reduceSub, Nat.reduceLT, Int.reduceToNat, Int.reduceLT, Int.reduceLE, reduceCtorEq]
      repeat' ((first | refine FK_split (fun h_ => ?_) (fun h_ => ?_) | refine GK_split (fun h_ => ?_) (fun h_ => ?_) | refine ite_both (fun h_ => ?_) (fun h_ => ?_)) <;> (try simp only [decide_eq_true_eq, decide_eq_false_iff_not, Bool.not_true, Bool.not_false, Bool.not_eq_true', Bool.not_eq_false', Bool.not_eq_eq_eq_not, Decidable.not_not] at h_) <;> (try simp only [r18_0, r18_1, r18_2, r18_3, r18_4, r18_5, r18_6, r18_7, r18_8, r18_9, r18_10, r18_12, r18_13, r18_14, r18_15, r18_16, r18_11, r18_17, r18_18, r18_20, r18_21, r18_19, r18_22, r18_23, r18_24, r18_25, r18_26, r18_27, r18_29, r18_30, r18_28, r18_31, c18, F18, l18_0, l18_1, l18_2, c1, c2, h_, go_sem, Int.reduceTMod, Int.reduceTDiv, Int.reduceDiv, Int.reduceMod, Int.reduceAdd, Int.reduceSub, Int.reduceMul, Int.reduceNeg, Int.reducePow, Int.reduceEq, ↓reduceIte, Nat.reduceEqDiff, Nat.reduceAdd, Nat.reduceMul, Nat.reduceLeDiff, Nat.reduceSub, Nat.reduceLT, Int.reduceToNat, Int.reduceLT, Int.reduceLE, reduceCtorEq]))
      rw [XK_loop]
      try simp only [r18_0, r18_1, r18_2, r18_3, r18_4, r18_5, r18_6, r18_7, r18_8, r18_9, r18_10, r18_12, r18_13, r18_14, r18_15, r18_16, r18_11, r18_17, r18_18, r18_20, r18_21, r18_19, r18_22, r18_23, r18_24, r18_25, r18_26, r18_27, r18_29, r18_30, r18_28, r18_31, c18, F18, l18_0, l18_1, l18_2, c1, c2, go_sem, Int.reduceTMod, Int.reduceTDiv, Int.reduceDiv, Int.reduceMod, Int.reduceAdd, Int.reduceSub, Int.reduceMul, Int.reduceNeg, Int.reducePow, Int.reduceEq, ↓reduceIte, Nat.reduceEqDiff, Nat.reduceAdd, Nat.reduceMul, Nat.reduceLeDiff, Nat.reduceSub, Nat.reduceLT, Int.reduceToNat, Int.reduceLT, Int.reduceLE, reduceCtorEq]
      repeat' ((first | refine FK_split (fun h_ => ?_) (fun h_ => ?_) | refine GK_split (fun h_ => ?_) (fun h_ => ?_) | refine ite_both (fun h_ => ?_) (fun h_ => ?_)) <;> (try simp only [decide_eq_true_eq, decide_eq_false_iff_not, Bool.not_true, Bool.not_false, Bool.not_eq_true', Bool.not_eq_false', Bool.not_eq_eq_eq_not, Decidable.not_not] at h_) <;> (try simp only [r18_0, r18_1, r18_2, r18_3, r18_4, r18_5, r18_6, r18_7, r18_8, r18_9, r18_10, r18_12, r18_13, r18_14, r18_15, r18_16, r18_11, r18_17, r18_18, r18_20, r18_21, r18_19, r18_22, r18_23, r18_24, r18_25, r18_26, r18_27, r18_29, r18_30, r18_28, r18_31, c18, F18, l18_0, l18_1, l18_2, c1, c2, h_, go_sem, Int.reduceTMod, Int.reduceTDiv, Int.reduceDiv, Int.reduceMod, Int.reduceAdd, Int.reduceSub, Int.reduceMul, Int.reduceNeg, Int.reducePow, Int.reduceEq, ↓reduceIte, Nat.reduceEqDiff, Nat.reduceAdd, Nat.reduceMul, Nat.reduceLeDiff, Nat.reduceSub, Nat.reduceLT, Int.reduceToNat, Int.reduceLT, Int.reduceLE, reduceCtorEq]))
      have hr1' : strokeI q c h 2 = [sqI h u] := hs
      have e1 : (strokeI q c h 2).map (·.2) = [] ++ [sqP u h] := by rw [hr1']; rfl
      have e2 : (strokeI q c h 2).all (·.1) = (sqP u h).all inP := by rw [hr1']; simp [sqI]
      refine rroom_loop hO3 (by simp) (fun l hl => ?_) ?_ ?_ (fun ha s a b d f => ?_) (fun ha s d f g => ?_)
      · simp only [List.nil_append, List.mem_singleton] at hl
        rw [hl]
        show 4 < 4294967296
        decide
      · simp only [go_sem, Int.reduceTMod, Int.reduceTDiv, Int.reduceDiv, Int.reduceMod, Int.reduceAdd, Int.reduceSub, Int.reduceMul, Int.reduceNeg, Int.reducePow, Int.reduceEq, ↓reduceIte, Nat.reduceEqDiff, Nat.reduceAdd, Nat.reduceMul, Nat.reduceLeDiff, Nat.reduceSub, Nat.reduceLT, Int.reduceToNat, Int.reduceLT, Int.reduceLE, reduceCtorEq]
      · simp only [go_sem, Int.reduceTMod, Int.reduceTDiv, Int.reduceDiv, Int.reduceMod, Int.reduceAdd, Int.reduceSub, Int.reduceMul, Int.reduceNeg, Int.reducePow, Int.reduceEq, ↓reduceIte, Nat.reduceEqDiff, Nat.reduceAdd, Nat.reduceMul, Nat.reduceLeDiff, Nat.reduceSub, Nat.reduceLT, Int.reduceToNat, Int.reduceLT, Int.reduceLE, reduceCtorEq]
      · skip
        try simp only [a, b, go_sem, Int.reduceTMod, Int.reduceTDiv, Int.reduceDiv, Int.reduceMod, Int.reduceAdd, Int.reduceSub, Int.reduceMul, Int.reduceNeg, Int.reducePow, Int.reduceEq, ↓reduceIte, Nat.reduceEqDiff, Nat.reduceAdd, Nat.reduceMul, Nat.reduceLeDiff, Nat.reduceSub, Nat.reduceLT, Int.reduceToNat, Int.reduceLT, Int.reduceLE, reduceCtorEq]
        repeat' ((first | refine FK_split (fun h_ => ?_) (fun h_ => ?_) | refine GK_split (fun h_ => ?_) (fun h_ => ?_) | refine ite_both (fun h_ => ?_) (fun h_ => ?_)) <;> (try simp only [decide_eq_true_eq, decide_eq_false_iff_not, Bool.not_true, Bool.not_false, Bool.not_eq_true', Bool.not_eq_false', Bool.not_eq_eq_eq_not, Decidable.not_not] at h_) <;> (try simp only [a, b, h_, go_sem, Int.reduceTMod, Int.reduceTDiv, Int.reduceDiv, Int.reduceMod, Int.reduceAdd, Int.reduceSub, Int.reduceMul, Int.reduceNeg, Int.reducePow, Int.reduceEq, ↓reduceIte, Nat.reduceEqDiff, Nat.reduceAdd, Nat.reduceMul, Nat.reduceLeDiff, Nat.reduceSub, Nat.reduceLT, Int.reduceToNat, Int.reduceLT, Int.reduceLE, reduceCtorEq]))
        refine ⟨rnil, ?_, fun _ => rfl, fun h => ?_⟩
        · rw [e2]
          simp only [List.nil_append, List.all_cons, List.all_nil, Bool.and_true] at ha
          rw [ha]
        · rw [e2] at h
          simp only [List.nil_append, List.all_cons, List.all_nil, Bool.and_true] at ha
          rw [ha] at h; cases h
      · skip
        try simp only [r18_0, r18_1, r18_2, r18_3, r18_4, r18_5, r18_6, r18_7, r18_8, r18_9, r18_10, r18_12, r18_13, r18_14, r18_15, r18_16, r18_11, r18_17, r18_18, r18_20, r18_21, r18_19, r18_22, r18_23, r18_24, r18_25, r18_26, r18_27, r18_29, r18_30, r18_28, r18_31, c18, F18, g, go_sem, Int.reduceTMod, Int.reduceTDiv, Int.reduceDiv, Int.reduceMod, Int.reduceAdd, Int.reduceSub, Int.reduceMul, Int.reduceNeg, Int.reducePow, Int.reduceEq, ↓reduceIte, Nat.reduceEqDiff, Nat.reduceAdd, Nat.reduceMul, Nat.reduceLeDiff, Nat.reduceSub, Nat.reduceLT, Int.reduceToNat, Int.reduceLT, Int.reduceLE, reduceCtorEq]
        repeat' ((first | refine FK_split (fun h_ => ?_) (fun h_ => ?_) | refine GK_split (fun h_ => ?_) (fun h_ => ?_) | refine ite_both (fun h_ => ?_) (fun h_ => ?_)) <;> (try simp only [decide_eq_true_eq, decide_eq_false_iff_not, Bool.not_true, Bool.not_false, Bool.not_eq_true', Bool.not_eq_false', Bool.not_eq_eq_eq_not, Decidable.not_not] at h_) <;> (try simp only [r18_0, r18_1, r18_2, r18_3, r18_4, r18_5, r18_6, r18_7, r18_8, r18_9, r18_10, r18_12, r18_13, r18_14, r18_15, r18_16, r18_11, r18_17, r18_18, r18_20, r18_21, r18_19, r18_22, r18_23, r18_24, r18_25, r18_26, r18_27, r18_29, r18_30, r18_28, r18_31, c18, F18, g, h_, go_sem, Int.reduceTMod, Int.reduceTDiv, Int.reduceDiv, Int.reduceMod, Int.reduceAdd, Int.reduceSub, Int.reduceMul, Int.reduceNeg, Int.reducePow, Int.reduceEq, ↓reduceIte, Nat.reduceEqDiff, Nat.reduceAdd, Nat.reduceMul, Nat.reduceLeDiff, Nat.reduceSub, Nat.reduceLT, Int.reduceToNat, Int.reduceLT, Int.reduceLE, reduceCtorEq]))
        simp only [List.nil_append, List.all_cons, List.all_nil, Bool.and_true] at ha
        exact ⟨.one c', by rw [e2, ha], fun h => (by rw [e2, ha] at h; cases h), fun _ => ⟨n1 - 1, by omega, by rw [e1, d, f]; exact hO3⟩⟩
  · have c1 : ((q.length : Int) = 1) = False := eq_false (by omega)
    have c2 : (1 < (q.length : Int)) = True := eq_true (by omega)
    have hal2 : alongI h q c = barsAll h q c ++ discsTo h q c q.length := rfl
    have hs : strokeI q c h cap = barsAll h q c ++ discsTo h q c q.length ++ (if c = true then [] else if cap = 1 then at1 (fun p => [discI h p]) q 0 ++ at1 (fun p => [discI h p]) q (q.length - 1) else if cap = 2 then at2 (firstI h) q 0 1 ++ at2 (lastI h) q (q.length - 2) (q.length - 1) else []) := by
      unfold strokeI; rw [if_neg (by omega), if_pos z, hal2]
    have hbel : ∀ id, sid r1 = some id → id ≤ n1 - 1 := fun id hid => by have := hr2.lt hid; omega
    have hbad : (barsAll h q c).all (·.1) = false → (strokeI q c h cap).all (·.1) = false := fun hb => by
      rw [hs, List.all_append, List.all_append, hb, Bool.false_and, Bool.false_and]
    have bad : ∀ m' n', (strokeI q c h cap).all (·.1) = false → RStrokeQ (strokeI q c h cap) n (.tup [rnil, RB false]) m' n' := fun m' n' hb => ⟨rnil, by rw [hb], fun _ => rfl, fun h => (by rw [hb] at h; cases h)⟩
    have hbl := barsTo_len h q (q.length - 1)
    have hbl2 := barAt_len h q (q.length - 1) 0
    have hbl3 : (barsAll h q c).length ≤ q.length + 1 := by
      unfold barsAll
      rw [List.length_append]
      split <;> (try simp only [List.length_nil]) <;> omega
    try simp only [r18_0, r18_1, r18_2, r18_3, r18_4, r18_5, r18_6, r18_7, r18_8, r18_9, r18_10, r18_12, r18_13, r18_14, r18_15, r18_16, r18_11, r18_17, r18_18, r18_20, r18_21, r18_19, r18_22, r18_23, r18_24, r18_25, r18_26, r18_27, r18_29, r18_30, r18_28, r18_31, c18, F18, hlen, c1, c2, go_sem, Int.reduceTMod, Int.reduceTDiv, Int.reduceDiv, Int.reduceMod, Int.reduceAdd, Int.reduceSub, Int.reduceMul, Int.reduceNeg, Int.reducePow, Int.reduceEq, ↓reduceIte, Nat.reduceEqDiff, Nat.reduceAdd, Nat.reduceMul, Nat.reduceLeDiff, Nat.reduceSub, Nat.reduceLT, Int.reduceToNat, Int.reduceLT, Int.reduceLE, reduceCtorEq]
    repeat' ((first | refine FK_split (fun h_ => ?_) (fun h_ => ?_) | refine GK_split (fun h_ => ?_) (fun h_ => ?_) | refine ite_both (fun h_ => ?_) (fun h_ => ?_)) <;> (try simp only [decide_eq_true_eq, decide_eq_false_iff_not, Bool.not_true, Bool.not_false, Bool.not_eq_true', Bool.not_eq_false', Bool.not_eq_eq_eq_not, Decidable.not_not] at h_) <;> (try simp only [r18_0, r18_1, r18_2, r18_3, r18_4, r18_5, r18_6, r18_7, r18_8, r18_9, r18_10, r18_12, r18_13, r18_14, r18_15, r18_16, r18_11, r18_17, r18_18, r18_20, r18_21, r18_19, r18_22, r18_23, r18_24, r18_25, r18_26, r18_27, r18_29, r18_30, r18_28, r18_31, c18, F18, hlen, c1, c2, h_, go_sem, Int.reduceTMod, Int.reduceTDiv, Int.reduceDiv, Int.reduceMod, Int.reduceAdd, Int.reduceSub, Int.reduceMul, Int.reduceNeg, Int.reducePow, Int.reduceEq, ↓reduceIte, Nat.reduceEqDiff, Nat.reduceAdd, Nat.reduceMul, Nat.reduceLeDiff, Nat.reduceSub, Nat.reduceLT, Int.reduceToNat, Int.reduceLT, Int.reduceLE, reduceCtorEq]))
    refine rbars_loop (p := n1 - 1) (c := c) (h := h) (cp := cap) (by omega) hr2 hbel h1 h2 hal hadj (fun hc => hends hc z) z (by omega) ?_ ?_ ?_ ?_ ?_ ?_ ?_ (fun hb s a b d => ?_) (fun s sn sm s0 s1 s2 s3 s11 sO sR sL => ?_)
    · simp only [go_sem, Int.reduceTMod, Int.reduceTDiv, Int.reduceDiv, Int.reduceMod, Int.reduceAdd, Int.reduceSub, Int.reduceMul, Int.reduceNeg, Int.reducePow, Int.reduceEq, ↓reduceIte, Nat.reduceEqDiff, Nat.reduceAdd, Nat.reduceMul, Nat.reduceLeDiff, Nat.reduceSub, Nat.reduceLT, Int.reduceToNat, Int.reduceLT, Int.reduceLE, reduceCtorEq]
    · simp only [go_sem, Int.reduceTMod, Int.reduceTDiv, Int.reduceDiv, Int.reduceMod, Int.reduceAdd, Int.reduceSub, Int.reduceMul, Int.reduceNeg, Int.reducePow, Int.reduceEq, ↓reduceIte, Nat.reduceEqDiff, Nat.reduceAdd, Nat.reduceMul, Nat.reduceLeDiff, Nat.reduceSub, Nat.reduceLT, Int.reduceToNat, Int.reduceLT, Int.reduceLE, reduceCtorEq]
    · simp only [go_sem, Int.reduceTMod, Int.reduceTDiv, Int.reduceDiv, Int.reduceMod, Int.reduceAdd, Int.reduceSub, Int.reduceMul, Int.reduceNeg, Int.reducePow, Int.reduceEq, ↓reduceIte, Nat.reduceEqDiff, Nat.reduceAdd, Nat.reduceMul, Nat.reduceLeDiff, Nat.reduceSub, Nat.reduceLT, Int.reduceToNat, Int.reduceLT, Int.reduceLE, reduceCtorEq]
    · simp only [go_sem, Int.reduceTMod, Int.reduceTDiv, Int.reduceDiv, Int.reduceMod, Int.reduceAdd, Int.reduceSub, Int.reduceMul, Int.reduceNeg, Int.reducePow, Int.reduceEq, ↓reduceIte, Nat.reduceEqDiff, Nat.reduceAdd, Nat.reduceMul, Nat.reduceLeDiff, Nat.reduceSub, Nat.reduceLT, Int.reduceToNat, Int.reduceLT, Int.reduceLE, reduceCtorEq]
    · simp only [go_sem, Int.reduceTMod, Int.reduceTDiv, Int.reduceDiv, Int.reduceMod, Int.reduceAdd, Int.reduceSub, Int.reduceMul, Int.reduceNeg, Int.reducePow, Int.reduceEq, ↓reduceIte, Nat.reduceEqDiff, Nat.reduceAdd, Nat.reduceMul, Nat.reduceLeDiff, Nat.reduceSub, Nat.reduceLT, Int.reduceToNat, Int.reduceLT, Int.reduceLE, reduceCtorEq]
    · simp only [go_sem, Int.reduceTMod, Int.reduceTDiv, Int.reduceDiv, Int.reduceMod, Int.reduceAdd, Int.reduceSub, Int.reduceMul, Int.reduceNeg, Int.reducePow, Int.reduceEq, ↓reduceIte, Nat.reduceEqDiff, Nat.reduceAdd, Nat.reduceMul, Nat.reduceLeDiff, Nat.reduceSub, Nat.reduceLT, Int.reduceToNat, Int.reduceLT, Int.reduceLE, reduceCtorEq]
    · simp only [go_sem, Int.reduceTMod, Int.reduceTDiv, Int.reduceDiv, Int.reduceMod, Int.reduceAdd, Int.reduceSub, Int.reduceMul, Int.reduceNeg, Int.reducePow, Int.reduceEq, ↓reduceIte, Nat.reduceEqDiff, Nat.reduceAdd, Nat.reduceMul, Nat.reduceLeDiff, Nat.reduceSub, Nat.reduceLT, Int.reduceToNat, Int.reduceLT, Int.reduceLE, reduceCtorEq]
    · skip
      try simp only [a, b, go_sem, Int.reduceTMod, Int.reduceTDiv, Int.reduceDiv, Int.reduceMod, Int.reduceAdd, Int.reduceSub, Int.reduceMul, Int.reduceNeg, Int.reducePow, Int.reduceEq, ↓reduceIte, Nat.reduceEqDiff, Nat.reduceAdd, Nat.reduceMul, Nat.reduceLeDiff, Nat.reduceSub, Nat.reduceLT, Int.reduceToNat, Int.reduceLT, Int.reduceLE, reduceCtorEq]
      repeat' ((first | refine FK_split (fun h_ => ?_) (fun h_ => ?_) | refine GK_split (fun h_ => ?_) (fun h_ => ?_) | refine ite_both (fun h_ => ?_) (fun h_ => ?_)) <;> (try simp only [decide_eq_true_eq, decide_eq_false_iff_not, Bool.not_true, Bool.not_false, Bool.not_eq_true', Bool.not_eq_false', Bool.not_eq_eq_eq_not, Decidable.not_not] at h_) <;> (try simp only [a, b, h_, go_sem, Int.reduceTMod, Int.reduceTDiv, Int.reduceDiv, Int.reduceMod, Int.reduceAdd, Int.reduceSub, Int.reduceMul, Int.reduceNeg, Int.reducePow, Int.reduceEq, ↓reduceIte, Nat.reduceEqDiff, Nat.reduceAdd, Nat.reduceMul, Nat.reduceLeDiff, Nat.reduceSub, Nat.reduceLT, Int.reduceToNat, Int.reduceLT, Int.reduceLE, reduceCtorEq]))
      exact bad _ _ (hbad hb)
    · obtain ⟨e, M2, N2⟩ := s
      simp only at sn sm s0 s1 s2 s3 s11 sO
      try simp only [r18_0, r18_1, r18_2, r18_3, r18_4, r18_5, r18_6, r18_7, r18_8, r18_9, r18_10, r18_12, r18_13, r18_14, r18_15, r18_16, r18_11, r18_17, r18_18, r18_20, r18_21, r18_19, r18_22, r18_23, r18_24, r18_25, r18_26, r18_27, r18_29, r18_30, r18_28, r18_31, c18, F18, go_sem, Int.reduceTMod, Int.reduceTDiv, Int.reduceDiv, Int.reduceMod, Int.reduceAdd, Int.reduceSub, Int.reduceMul, Int.reduceNeg, Int.reducePow, Int.reduceEq, ↓reduceIte, Nat.reduceEqDiff, Nat.reduceAdd, Nat.reduceMul, Nat.reduceLeDiff, Nat.reduceSub, Nat.reduceLT, Int.reduceToNat, Int.reduceLT, Int.reduceLE, reduceCtorEq]
      repeat' ((first | refine FK_split (fun h_ => ?_) (fun h_ => ?_) | refine GK_split (fun h_ => ?_) (fun h_ => ?_) | refine ite_both (fun h_ => ?_) (fun h_ => ?_)) <;> (try simp only [decide_eq_true_eq, decide_eq_false_iff_not, Bool.not_true, Bool.not_false, Bool.not_eq_true', Bool.not_eq_false', Bool.not_eq_eq_eq_not, Decidable.not_not] at h_) <;> (try simp only [r18_0, r18_1, r18_2, r18_3, r18_4, r18_5, r18_6, r18_7, r18_8, r18_9, r18_10, r18_12, r18_13, r18_14, r18_15, r18_16, r18_11, r18_17, r18_18, r18_20, r18_21, r18_19, r18_22, r18_23, r18_24, r18_25, r18_26, r18_27, r18_29, r18_30, r18_28, r18_31, c18, F18, h_, go_sem, Int.reduceTMod, Int.reduceTDiv, Int.reduceDiv, Int.reduceMod, Int.reduceAdd, Int.reduceSub, Int.reduceMul, Int.reduceNeg, Int.reducePow, Int.reduceEq, ↓reduceIte, Nat.reduceEqDiff, Nat.reduceAdd, Nat.reduceMul, Nat.reduceLeDiff, Nat.reduceSub, Nat.reduceLT, Int.reduceToNat, Int.reduceLT, Int.reduceLE, reduceCtorEq]))
      refine rdiscs_loop (p := n1 - 1) (c := c) (h := h) (cp := cap) sO (by omega) (hr2.keep' sn (fun id hid => sm id (hbel id hid))) hbel h1 h2 hal z (by omega) (by rw [List.length_map]; omega) ?_ ?_ ?_ ?_ ?_ ?_ ?_ (fun s tn tm t0 t1 t2 t3 t11 tO => ?_)
      · simp only [s0, go_sem, Int.reduceTMod, Int.reduceTDiv, Int.reduceDiv, Int.reduceMod, Int.reduceAdd, Int.reduceSub, Int.reduceMul, Int.reduceNeg, Int.reducePow, Int.reduceEq, ↓reduceIte, Nat.reduceEqDiff, Nat.reduceAdd, Nat.reduceMul, Nat.reduceLeDiff, Nat.reduceSub, Nat.reduceLT, Int.reduceToNat, Int.reduceLT, Int.reduceLE, reduceCtorEq]
      · simp only [s1, go_sem, Int.reduceTMod, Int.reduceTDiv, Int.reduceDiv, Int.reduceMod, Int.reduceAdd, Int.reduceSub, Int.reduceMul, Int.reduceNeg, Int.reducePow, Int.reduceEq, ↓reduceIte, Nat.reduceEqDiff, Nat.reduceAdd, Nat.reduceMul, Nat.reduceLeDiff, Nat.reduceSub, Nat.reduceLT, Int.reduceToNat, Int.reduceLT, Int.reduceLE, reduceCtorEq]
      · simp only [s2, go_sem, Int.reduceTMod, Int.reduceTDiv, Int.reduceDiv, Int.reduceMod, Int.reduceAdd, Int.reduceSub, Int.reduceMul, Int.reduceNeg, Int.reducePow, Int.reduceEq, ↓reduceIte, Nat.reduceEqDiff, Nat.reduceAdd, Nat.reduceMul, Nat.reduceLeDiff, Nat.reduceSub, Nat.reduceLT, Int.reduceToNat, Int.reduceLT, Int.reduceLE, reduceCtorEq]
      · simp only [s3, go_sem, Int.reduceTMod, Int.reduceTDiv, Int.reduceDiv, Int.reduceMod, Int.reduceAdd, Int.reduceSub, Int.reduceMul, Int.reduceNeg, Int.reducePow, Int.reduceEq, ↓reduceIte, Nat.reduceEqDiff, Nat.reduceAdd, Nat.reduceMul, Nat.reduceLeDiff, Nat.reduceSub, Nat.reduceLT, Int.reduceToNat, Int.reduceLT, Int.reduceLE, reduceCtorEq]
      · simp only [go_sem, Int.reduceTMod, Int.reduceTDiv, Int.reduceDiv, Int.reduceMod, Int.reduceAdd, Int.reduceSub, Int.reduceMul, Int.reduceNeg, Int.reducePow, Int.reduceEq, ↓reduceIte, Nat.reduceEqDiff, Nat.reduceAdd, Nat.reduceMul, Nat.reduceLeDiff, Nat.reduceSub, Nat.reduceLT, Int.reduceToNat, Int.reduceLT, Int.reduceLE, reduceCtorEq]
      · simp only [s11, go_sem, Int.reduceTMod, Int.reduceTDiv, Int.reduceDiv, Int.reduceMod, Int.reduceAdd, Int.reduceSub, Int.reduceMul, Int.reduceNeg, Int.reducePow, Int.reduceEq, ↓reduceIte, Nat.reduceEqDiff, Nat.reduceAdd, Nat.reduceMul, Nat.reduceLeDiff, Nat.reduceSub, Nat.reduceLT, Int.reduceToNat, Int.reduceLT, Int.reduceLE, reduceCtorEq]
      · simp only [go_sem, Int.reduceTMod, Int.reduceTDiv, Int.reduceDiv, Int.reduceMod, Int.reduceAdd, Int.reduceSub, Int.reduceMul, Int.reduceNeg, Int.reducePow, Int.reduceEq, ↓reduceIte, Nat.reduceEqDiff, Nat.reduceAdd, Nat.reduceMul, Nat.reduceLeDiff, Nat.reduceSub, Nat.reduceLT, Int.reduceToNat, Int.reduceLT, Int.reduceLE, reduceCtorEq]
      · obtain ⟨e', M3, N3⟩ := s
        simp only at tn tm t0 t1 t2 t3 t11 tO
        have okA : ∀ x ∈ alongI h q c, x.1 = x.2.all inP := fun x hx => by
          rw [hal2, List.mem_append] at hx
          rcases hx with hx | hx
          · exact sR x hx
          · exact discs_okR h q c _ x hx
        rw [← List.map_append, ← hal2] at tO
        have tail : ∀ (its : List (Bool × List Pt)), its = strokeI q c h cap → (∀ x ∈ its, x.1 = x.2.all inP) → ∀ (e : Nat → Reg) (M : Mem) (N : Nat) (K : Kt), OPs (n1 - 1) (n1 - 1) (n1 - 1) M N (e 10) (its.map (·.2)) → e 16 = RI 0 → (∀ l ∈ its.map (·.2), l.length < 4294967296) → its.length < 4294967296 →
            ((strokeI q c h cap).all (·.1) = false → ∀ s, s.e 8 = rnil → s.e 9 = RB false → KR TA K s) → ((strokeI q c h cap).all (·.1) = true → ∀ s, OPs (n1 - 1) (n1 - 1) (n1 - 1) s.m s.n (s.e 10) ((strokeI q c h cap).map (·.2)) → KX TA K 4 s) → XK TA (.loop l18_2) ⟨e, M, N⟩ K := fun its hi ho e M N K hO h16 hsz hln hf ht => by
          have hal := all_okR ho
          refine rroom_loop hO (by rw [List.length_map]; exact hln) hsz rfl h16 (fun ha s a b _ _ => hf (by rw [← hi, hal]; exact ha) s a b) (fun ha s a b d => ht (by rw [← hi, hal]; exact ha) s ?_)
          rw [a, b, d, ← hi]
          exact hO
        have hlA : (alongI h q c).length < 100000000 := by
          have := discsTo_len h q c q.length
          rw [hal2, List.length_append]; omega
        have good : ∀ x m' n', (strokeI q c h cap).all (·.1) = true → OPs (n1 - 1) (n1 - 1) (n1 - 1) m' n' x ((strokeI q c h cap).map (·.2)) → RStrokeQ (strokeI q c h cap) n (.tup [x, RB true]) m' n' := fun x m' n' ha hO => ⟨x, by rw [ha], fun h => (by rw [ha] at h; cases h), fun _ => ⟨n1 - 1, by omega, hO⟩⟩
        cases c
        · simp only [Bool.false_eq_true, if_false] at hs
          rw [← hal2] at hs
          rcases (show cap = 0 ∨ cap = 1 ∨ cap = 2 by omega) with rfl | rfl | rfl
          · rw [if_neg (by decide), if_neg (by decide), List.append_nil] at hs
            have hs2 := hs.symm
            have okB := okA
            have l16 := along_l16 h q false
            try simp only [r18_0, r18_1, r18_2, r18_3, r18_4, r18_5, r18_6, r18_7, r18_8, r18_9, r18_10, r18_12, r18_13, r18_14, r18_15, r18_16, r18_11, r18_17, r18_18, r18_20, r18_21, r18_19, r18_22, r18_23, r18_24, r18_25, r18_26, r18_27, r18_29, r18_30, r18_28, r18_31, c18, F18, t1, t3, t11, c2, go_sem, Int.reduceTMod, Int.reduceTDiv, Int.reduceDiv, Int.reduceMod, Int.reduceAdd, Int.reduceSub, Int.reduceMul, Int.reduceNeg, Int.reducePow, Int.reduceEq, ↓reduceIte, Nat.reduceEqDiff, Nat.reduceAdd, Nat.reduceMul, Nat.reduceLeDiff, Nat.reduceSub, Nat.reduceLT, Int.reduceToNat, Int.reduceLT, Int.reduceLE, reduceCtorEq]
            repeat' ((first | refine FK_split (fun h_ => ?_) (fun h_ => ?_) | refine GK_split (fun h_ => ?_) (fun h_ => ?_) | refine ite_both (fun h_ => ?_) (fun h_ => ?_)) <;> (try simp only [decide_eq_true_eq, decide_eq_false_iff_not, Bool.not_true, Bool.not_false, Bool.not_eq_true', Bool.not_eq_false', Bool.not_eq_eq_eq_not, Decidable.not_not] at h_) <;> (try simp only [r18_0, r18_1, r18_2, r18_3, r18_4, r18_5, r18_6, r18_7, r18_8, r18_9, r18_10, r18_12, r18_13, r18_14, r18_15, r18_16, r18_11, r18_17, r18_18, r18_20, r18_21, r18_19, r18_22, r18_23, r18_24, r18_25, r18_26, r18_27, r18_29, r18_30, r18_28, r18_31, c18, F18, t1, t3, t11, c2, h_, go_sem, Int.reduceTMod, Int.reduceTDiv, Int.reduceDiv, Int.reduceMod, Int.reduceAdd, Int.reduceSub, Int.reduceMul, Int.reduceNeg, Int.reducePow, Int.reduceEq, ↓reduceIte, Nat.reduceEqDiff, Nat.reduceAdd, Nat.reduceMul, Nat.reduceLeDiff, Nat.reduceSub, Nat.reduceLT, Int.reduceToNat, Int.reduceLT, Int.reduceLE, reduceCtorEq]))
            refine tail _ hs2 okB _ _ _ _ (by simp only [go_sem, Int.reduceTMod, Int.reduceTDiv, Int.reduceDiv, Int.reduceMod, Int.reduceAdd, Int.reduceSub, Int.reduceMul, Int.reduceNeg, Int.reducePow, Int.reduceEq, ↓reduceIte, Nat.reduceEqDiff, Nat.reduceAdd, Nat.reduceMul, Nat.reduceLeDiff, Nat.reduceSub, Nat.reduceLT, Int.reduceToNat, Int.reduceLT, Int.reduceLE, reduceCtorEq]; exact tO) (by simp only [go_sem, Int.reduceTMod, Int.reduceTDiv, Int.reduceDiv, Int.reduceMod, Int.reduceAdd, Int.reduceSub, Int.reduceMul, Int.reduceNeg, Int.reducePow, Int.reduceEq, ↓reduceIte, Nat.reduceEqDiff, Nat.reduceAdd, Nat.reduceMul, Nat.reduceLeDiff, Nat.reduceSub, Nat.reduceLT, Int.reduceToNat, Int.reduceLT, Int.reduceLE, reduceCtorEq]) (fun l hl => ?_) (by omega) (fun hf s a b => ?_) (fun ht s hO => ?_)
            · obtain ⟨x, hx, rfl⟩ := List.mem_map.1 hl
              exact l16 x hx
            · skip
              try simp only [a, b, go_sem, Int.reduceTMod, Int.reduceTDiv, Int.reduceDiv, Int.reduceMod, Int.reduceAdd, Int.reduceSub, Int.reduceMul, Int.reduceNeg, Int.reducePow, Int.reduceEq, ↓reduceIte, Nat.reduceEqDiff, Nat.reduceAdd, Nat.reduceMul, Nat.reduceLeDiff, Nat.reduceSub, Nat.reduceLT, Int.reduceToNat, Int.reduceLT, Int.reduceLE, reduceCtorEq]
              repeat' ((first | refine FK_split (fun h_ => ?_) (fun h_ => ?_) | refine GK_split (fun h_ => ?_) (fun h_ => ?_) | refine ite_both (fun h_ => ?_) (fun h_ => ?_)) <;> (try simp only [decide_eq_true_eq, decide_eq_false_iff_not, Bool.not_true, Bool.not_false, Bool.not_eq_true', Bool.not_eq_false', Bool.not_eq_eq_eq_not, Decidable.not_not] at h_) <;> (try simp only [a, b, h_, go_sem, Int.reduceTMod, Int.reduceTDiv, Int.reduceDiv, Int.reduceMod, Int.reduceAdd, Int.reduceSub, Int.reduceMul, Int.reduceNeg, Int.reducePow, Int.reduceEq, ↓reduceIte, Nat.reduceEqDiff, Nat.reduceAdd, Nat.reduceMul, Nat.reduceLeDiff, Nat.reduceSub, Nat.reduceLT, Int.reduceToNat, Int.reduceLT, Int.reduceLE, reduceCtorEq]))
              exact bad _ _ hf
            · skip
              try simp only [r18_0, r18_1, r18_2, r18_3, r18_4, r18_5, r18_6, r18_7, r18_8, r18_9, r18_10, r18_12, r18_13, r18_14, r18_15, r18_16, r18_11, r18_17, r18_18, r18_20, r18_21, r18_19, r18_22, r18_23, r18_24, r18_25, r18_26, r18_27, r18_29, r18_30, r18_28, r18_31, c18, F18, go_sem, Int.reduceTMod, Int.reduceTDiv, Int.reduceDiv, Int.reduceMod, Int.reduceAdd, Int.reduceSub, Int.reduceMul, Int.reduceNeg, Int.reducePow, Int.reduceEq, ↓reduceIte, Nat.reduceEqDiff, Nat.reduceAdd, Nat.reduceMul, Nat.reduceLeDiff, Nat.reduceSub, Nat.reduceLT, Int.reduceToNat, Int.reduceLT, Int.reduceLE, reduceCtorEq]
              repeat' ((first | refine FK_split (fun h_ => ?_) (fun h_ => ?_) | refine GK_split (fun h_ => ?_) (fun h_ => ?_) | refine ite_both (fun h_ => ?_) (fun h_ => ?_)) <;> (try simp only [decide_eq_true_eq, decide_eq_false_iff_not, Bool.not_true, Bool.not_false, Bool.not_eq_true', Bool.not_eq_false', Bool.not_eq_eq_eq_not, Decidable.not_not] at h_) <;> (try simp only [r18_0, r18_1, r18_2, r18_3, r18_4, r18_5, r18_6, r18_7, r18_8, r18_9, r18_10, r18_12, r18_13, r18_14, r18_15, r18_16, r18_11, r18_17, r18_18, r18_20, r18_21, r18_19, r18_22, r18_23, r18_24, r18_25, r18_26, r18_27, r18_29, r18_30, r18_28, r18_31, c18, F18, h_, go_sem, Int.reduceTMod, Int.reduceTDiv, Int.reduceDiv, Int.reduceMod, Int.reduceAdd, Int.reduceSub, Int.reduceMul, Int.reduceNeg, Int.reducePow, Int.reduceEq, ↓reduceIte, Nat.reduceEqDiff, Nat.reduceAdd, Nat.reduceMul, Nat.reduceLeDiff, Nat.reduceSub, Nat.reduceLT, Int.reduceToNat, Int.reduceLT, Int.reduceLE, reduceCtorEq]))
              exact good _ _ _ ht hO
          · rw [if_pos rfl] at hs
            unfold at1 at hs
            have hp : q[0]? = some (q[0]'(by omega)) := List.getElem?_eq_getElem (by omega)
            have hpL : q[q.length - 1]? = some (q[q.length - 1]'(by omega)) := List.getElem?_eq_getElem (by omega)
            have hr3 : RPt M3 N3 r1 q := hr2.keep' (by omega) (fun id hid => by rw [tm id (hbel id hid), sm id (hbel id hid)])
            obtain ⟨id, off, cap', hra, hid, hrd⟩ := hr3.at cs2 hp
            obtain ⟨id', off', cap2, hra', hid', hrdL⟩ := hr3.at cs2 hpL
            rw [hra] at hra'
            simp only [Reg.one.injEq, Cell.sl.injEq, true_and] at hra'
            obtain ⟨rfl, rfl, rfl, _⟩ := hra'
            rw [Nat.zero_mul, Nat.add_zero] at hrd
            have ip := all_at hal hp
            have ipL := all_at hal hpL
            have d1 : ((0 : Int) < (q.length : Int)) = True := eq_true (by omega)
            have d3 : (0 ≤ (q.length : Int) - 1) = True := eq_true (by omega)
            have d4 : ((q.length : Int) - 1 < (q.length : Int)) = True := eq_true (by omega)
            have d5 : IntKind.i64.wrap ((q.length : Int) - 1) = (q.length : Int) - 1 := wr_eq (by omega) (by omega)
            have d8 : ((q.length : Int) - 1).toNat = q.length - 1 := by omega
            rw [hra] at t0
            rw [hp, hpL] at hs
            have hs2 : alongI h q false ++ [discI h (q[0]'(by omega))] ++ [discI h (q[q.length - 1]'(by omega))] = strokeI q false h 1 := by rw [hs, List.append_assoc]
            generalize (q[0]'(by omega)) = u at *
            generalize (q[q.length - 1]'(by omega)) = v at *
            have okB : ∀ x ∈ alongI h q false ++ [discI h u] ++ [discI h v], x.1 = x.2.all inP := fun x hx => by
              rw [List.mem_append, List.mem_append, List.mem_singleton, List.mem_singleton] at hx
              rcases hx with (hx | hx) | hx
              · exact okA x hx
              · subst hx; rfl
              · subst hx; rfl
            have l16 : ∀ x ∈ alongI h q false ++ [discI h u] ++ [discI h v], x.2.length < 4294967296 := fun x hx => by
              rw [List.mem_append, List.mem_append, List.mem_singleton, List.mem_singleton] at hx
              rcases hx with (hx | hx) | hx
              · exact along_l16 h q false x hx
              · subst hx; show 16 < 4294967296; decide
              · subst hx; show 16 < 4294967296; decide
            try simp only [r18_0, r18_1, r18_2, r18_3, r18_4, r18_5, r18_6, r18_7, r18_8, r18_9, r18_10, r18_12, r18_13, r18_14, r18_15, r18_16, r18_11, r18_17, r18_18, r18_20, r18_21, r18_19, r18_22, r18_23, r18_24, r18_25, r18_26, r18_27, r18_29, r18_30, r18_28, r18_31, c18, F18, t0, t1, t2, t3, t11, c2, d1, hrd, Int.toNat_zero, Int.reduceToNat, Nat.zero_mul, Nat.add_zero, go_sem, Int.reduceTMod, Int.reduceTDiv, Int.reduceDiv, Int.reduceMod, Int.reduceAdd, Int.reduceSub, Int.reduceMul, Int.reduceNeg, Int.reducePow, Int.reduceEq, ↓reduceIte, Nat.reduceEqDiff, Nat.reduceAdd, Nat.reduceMul, Nat.reduceLeDiff, Nat.reduceSub, Nat.reduceLT, Int.reduceToNat, Int.reduceLT, Int.reduceLE, reduceCtorEq]
            repeat' ((first | refine FK_split (fun h_ => ?_) (fun h_ => ?_) | refine GK_split (fun h_ => ?_) (fun h_ => ?_) | refine ite_both (fun h_ => ?_) (fun h_ => ?_)) <;> (try simp only [decide_eq_true_eq, decide_eq_false_iff_not, Bool.not_true, Bool.not_false, Bool.not_eq_true', Bool.not_eq_false', Bool.not_eq_eq_eq_not, Decidable.not_not] at h_) <;> (try simp only [r18_0, r18_1, r18_2, r18_3, r18_4, r18_5, r18_6, r18_7, r18_8, r18_9, r18_10, r18_12, r18_13, r18_14, r18_15, r18_16, r18_11, r18_17, r18_18, r18_20, r18_21, r18_19, r18_22, r18_23, r18_24, r18_25, r18_26, r18_27, r18_29, r18_30, r18_28, r18_31, c18, F18, t0, t1, t2, t3, t11, c2, d1, hrd, Int.toNat_zero, Int.reduceToNat, Nat.zero_mul, Nat.add_zero, h_, go_sem, Int.reduceTMod, Int.reduceTDiv, Int.reduceDiv, Int.reduceMod, Int.reduceAdd, Int.reduceSub, Int.reduceMul, Int.reduceNeg, Int.reducePow, Int.reduceEq, ↓reduceIte, Nat.reduceEqDiff, Nat.reduceAdd, Nat.reduceMul, Nat.reduceLeDiff, Nat.reduceSub, Nat.reduceLT, Int.reduceToNat, Int.reduceLT, Int.reduceLE, reduceCtorEq]))
            refine RK_callk ?_
            refine (w_rDiscP ip h1 h2 _ _).mono ?_
            rintro _ m4 n4 ⟨hn4, x, rfl, hx, hxi⟩
            obtain ⟨hO4, hx4, hxs4⟩ := row_after tO (by omega) hx hxi
            rw [← rd_unfrz (m' := m4) hid] at hrdL
            try simp only [r18_0, r18_1, r18_2, r18_3, r18_4, r18_5, r18_6, r18_7, r18_8, r18_9, r18_10, r18_12, r18_13, r18_14, r18_15, r18_16, r18_11, r18_17, r18_18, r18_20, r18_21, r18_19, r18_22, r18_23, r18_24, r18_25, r18_26, r18_27, r18_29, r18_30, r18_28, r18_31, c18, F18, t0, t1, t2, t3, t11, d3, d4, d5, d8, hrdL, go_sem, Int.reduceTMod, Int.reduceTDiv, Int.reduceDiv, Int.reduceMod, Int.reduceAdd, Int.reduceSub, Int.reduceMul, Int.reduceNeg, Int.reducePow, Int.reduceEq, ↓reduceIte, Nat.reduceEqDiff, Nat.reduceAdd, Nat.reduceMul, Nat.reduceLeDiff, Nat.reduceSub, Nat.reduceLT, Int.reduceToNat, Int.reduceLT, Int.reduceLE, reduceCtorEq]
            repeat' ((first | refine FK_split (fun h_ => ?_) (fun h_ => ?_) | refine GK_split (fun h_ => ?_) (fun h_ => ?_) | refine ite_both (fun h_ => ?_) (fun h_ => ?_)) <;> (try simp only [decide_eq_true_eq, decide_eq_false_iff_not, Bool.not_true, Bool.not_false, Bool.not_eq_true', Bool.not_eq_false', Bool.not_eq_eq_eq_not, Decidable.not_not] at h_) <;> (try simp only [r18_0, r18_1, r18_2, r18_3, r18_4, r18_5, r18_6, r18_7, r18_8, r18_9, r18_10, r18_12, r18_13, r18_14, r18_15, r18_16, r18_11, r18_17, r18_18, r18_20, r18_21, r18_19, r18_22, r18_23, r18_24, r18_25, r18_26, r18_27, r18_29, r18_30, r18_28, r18_31, c18, F18, t0, t1, t2, t3, t11, d3, d4, d5, d8, hrdL, h_, go_sem, Int.reduceTMod, Int.reduceTDiv, Int.reduceDiv, Int.reduceMod, Int.reduceAdd, Int.reduceSub, Int.reduceMul, Int.reduceNeg, Int.reducePow, Int.reduceEq, ↓reduceIte, Nat.reduceEqDiff, Nat.reduceAdd, Nat.reduceMul, Nat.reduceLeDiff, Nat.reduceSub, Nat.reduceLT, Int.reduceToNat, Int.reduceLT, Int.reduceLE, reduceCtorEq]))
            refine RK_callk ?_
            refine (w_rDiscP ipL h1 h2 _ _).mono ?_
            rintro _ m5 n5 ⟨hn5, y, rfl, hy, hyi⟩
            obtain ⟨hO5, hy5, hys5⟩ := row_after hO4 (by omega) hy hyi
            have hx5 : RPt (unfrz (unfrz M3 N3 m4) (max N3 n4) m5) (max (max N3 n4) n5) (.one x) (disc u.x u.y h) := hx4.keep (by omega) (fun id hid => by rw [unfrz_at, if_pos hid])
            try simp only [r18_0, r18_1, r18_2, r18_3, r18_4, r18_5, r18_6, r18_7, r18_8, r18_9, r18_10, r18_12, r18_13, r18_14, r18_15, r18_16, r18_11, r18_17, r18_18, r18_20, r18_21, r18_19, r18_22, r18_23, r18_24, r18_25, r18_26, r18_27, r18_29, r18_30, r18_28, r18_31, c18, F18, go_sem, Int.reduceTMod, Int.reduceTDiv, Int.reduceDiv, Int.reduceMod, Int.reduceAdd, Int.reduceSub, Int.reduceMul, Int.reduceNeg, Int.reducePow, Int.reduceEq, ↓reduceIte, Nat.reduceEqDiff, Nat.reduceAdd, Nat.reduceMul, Nat.reduceLeDiff, Nat.reduceSub, Nat.reduceLT, Int.reduceToNat, Int.reduceLT, Int.reduceLE, reduceCtorEq]
            repeat' ((first | refine FK_split (fun h_ => ?_) (fun h_ => ?_) | refine GK_split (fun h_ => ?_) (fun h_ => ?_) | refine ite_both (fun h_ => ?_) (fun h_ => ?_)) <;> (try simp only [decide_eq_true_eq, decide_eq_false_iff_not, Bool.not_true, Bool.not_false, Bool.not_eq_true', Bool.not_eq_false', Bool.not_eq_eq_eq_not, Decidable.not_not] at h_) <;> (try simp only [r18_0, r18_1, r18_2, r18_3, r18_4, r18_5, r18_6, r18_7, r18_8, r18_9, r18_10, r18_12, r18_13, r18_14, r18_15, r18_16, r18_11, r18_17, r18_18, r18_20, r18_21, r18_19, r18_22, r18_23, r18_24, r18_25, r18_26, r18_27, r18_29, r18_30, r18_28, r18_31, c18, F18, h_, go_sem, Int.reduceTMod, Int.reduceTDiv, Int.reduceDiv, Int.reduceMod, Int.reduceAdd, Int.reduceSub, Int.reduceMul, Int.reduceNeg, Int.reducePow, Int.reduceEq, ↓reduceIte, Nat.reduceEqDiff, Nat.reduceAdd, Nat.reduceMul, Nat.reduceLeDiff, Nat.reduceSub, Nat.reduceLT, Int.reduceToNat, Int.reduceLT, Int.reduceLE, reduceCtorEq]))
            refine row_push_two hO5 (by omega) hx5 hxs4 hy5 hys5 (by rw [List.length_map]; omega) ?_
            intro c' m' hO9 hf
            try simp only [r18_0, r18_1, r18_2, r18_3, r18_4, r18_5, r18_6, r18_7, r18_8, r18_9, r18_10, r18_12, r18_13, r18_14, r18_15, r18_16, r18_11, r18_17, r18_18, r18_20, r18_21, r18_19, r18_22, r18_23, r18_24, r18_25, r18_26, r18_27, r18_29, r18_30, r18_28, r18_31, c18, F18, t1, t3, t11, c2, go_sem, Int.reduceTMod, Int.reduceTDiv, Int.reduceDiv, Int.reduceMod, Int.reduceAdd, Int.reduceSub, Int.reduceMul, Int.reduceNeg, Int.reducePow, Int.reduceEq, ↓reduceIte, Nat.reduceEqDiff, Nat.reduceAdd, Nat.reduceMul, Nat.reduceLeDiff, Nat.reduceSub, Nat.reduceLT, Int.reduceToNat, Int.reduceLT, Int.reduceLE, reduceCtorEq]
            repeat' ((first | refine FK_split (fun h_ => ?_) (fun h_ => ?_) | refine GK_split (fun h_ => ?_) (fun h_ => ?_) | refine ite_both (fun h_ => ?_) (fun h_ => ?_)) <;> (try simp only [decide_eq_true_eq, decide_eq_false_iff_not, Bool.not_true, Bool.not_false, Bool.not_eq_true', Bool.not_eq_false', Bool.not_eq_eq_eq_not, Decidable.not_not] at h_) <;> (try simp only [r18_0, r18_1, r18_2, r18_3, r18_4, r18_5, r18_6, r18_7, r18_8, r18_9, r18_10, r18_12, r18_13, r18_14, r18_15, r18_16, r18_11, r18_17, r18_18, r18_20, r18_21, r18_19, r18_22, r18_23, r18_24, r18_25, r18_26, r18_27, r18_29, r18_30, r18_28, r18_31, c18, F18, t1, t3, t11, c2, h_, go_sem, Int.reduceTMod, Int.reduceTDiv, Int.reduceDiv, Int.reduceMod, Int.reduceAdd, Int.reduceSub, Int.reduceMul, Int.reduceNeg, Int.reducePow, Int.reduceEq, ↓reduceIte, Nat.reduceEqDiff, Nat.reduceAdd, Nat.reduceMul, Nat.reduceLeDiff, Nat.reduceSub, Nat.reduceLT, Int.reduceToNat, Int.reduceLT, Int.reduceLE, reduceCtorEq]))
            refine tail _ hs2 okB _ _ _ _ (by simp only [go_sem, Int.reduceTMod, Int.reduceTDiv, Int.reduceDiv, Int.reduceMod, Int.reduceAdd, Int.reduceSub, Int.reduceMul, Int.reduceNeg, Int.reducePow, Int.reduceEq, ↓reduceIte, Nat.reduceEqDiff, Nat.reduceAdd, Nat.reduceMul, Nat.reduceLeDiff, Nat.reduceSub, Nat.reduceLT, Int.reduceToNat, Int.reduceLT, Int.reduceLE, reduceCtorEq]; rw [List.map_append, List.map_append]; exact hO9) (by simp only [go_sem, Int.reduceTMod, Int.reduceTDiv, Int.reduceDiv, Int.reduceMod, Int.reduceAdd, Int.reduceSub, Int.reduceMul, Int.reduceNeg, Int.reducePow, Int.reduceEq, ↓reduceIte, Nat.reduceEqDiff, Nat.reduceAdd, Nat.reduceMul, Nat.reduceLeDiff, Nat.reduceSub, Nat.reduceLT, Int.reduceToNat, Int.reduceLT, Int.reduceLE, reduceCtorEq]) (fun l hl => ?_) (by simp only [List.length_append, List.length_cons, List.length_nil]; omega) (fun hf s a b => ?_) (fun ht s hO => ?_)
            · obtain ⟨x, hx, rfl⟩ := List.mem_map.1 hl
              exact l16 x hx
            · skip
              try simp only [a, b, go_sem, Int.reduceTMod, Int.reduceTDiv, Int.reduceDiv, Int.reduceMod, Int.reduceAdd, Int.reduceSub, Int.reduceMul, Int.reduceNeg, Int.reducePow, Int.reduceEq, ↓reduceIte, Nat.reduceEqDiff, Nat.reduceAdd, Nat.reduceMul, Nat.reduceLeDiff, Nat.reduceSub, Nat.reduceLT, Int.reduceToNat, Int.reduceLT, Int.reduceLE, reduceCtorEq]
              repeat' ((first | refine FK_split (fun h_ => ?_) (fun h_ => ?_) | refine GK_split (fun h_ => ?_) (fun h_ => ?_) | refine ite_both (fun h_ => ?_) (fun h_ => ?_)) <;> (try simp only [decide_eq_true_eq, decide_eq_false_iff_not, Bool.not_true, Bool.not_false, Bool.not_eq_true', Bool.not_eq_false', Bool.not_eq_eq_eq_not, Decidable.not_not] at h_) <;> (try simp only [a, b, h_, go_sem, Int.reduceTMod, Int.reduceTDiv, Int.reduceDiv, Int.reduceMod, Int.reduceAdd, Int.reduceSub, Int.reduceMul, Int.reduceNeg, Int.reducePow, Int.reduceEq, ↓reduceIte, Nat.reduceEqDiff, Nat.reduceAdd, Nat.reduceMul, Nat.reduceLeDiff, Nat.reduceSub, Nat.reduceLT, Int.reduceToNat, Int.reduceLT, Int.reduceLE, reduceCtorEq]))
              exact bad _ _ hf
            · skip
              try simp only [r18_0, r18_1, r18_2, r18_3, r18_4, r18_5, r18_6, r18_7, r18_8, r18_9, r18_10, r18_12, r18_13, r18_14, r18_15, r18_16, r18_11, r18_17, r18_18, r18_20, r18_21, r18_19, r18_22, r18_23, r18_24, r18_25, r18_26, r18_27, r18_29, r18_30, r18_28, r18_31, c18, F18, go_sem, Int.reduceTMod, Int.reduceTDiv, Int.reduceDiv, Int.reduceMod, Int.reduceAdd, Int.reduceSub, Int.reduceMul, Int.reduceNeg, Int.reducePow, Int.reduceEq, ↓reduceIte, Nat.reduceEqDiff, Nat.reduceAdd, Nat.reduceMul, Nat.reduceLeDiff, Nat.reduceSub, Nat.reduceLT, Int.reduceToNat, Int.reduceLT, Int.reduceLE, reduceCtorEq]
              repeat' ((first | refine FK_split (fun h_ => ?_) (fun h_ => ?_) | refine GK_split (fun h_ => ?_) (fun h_ => ?_) | refine ite_both (fun h_ => ?_) (fun h_ => ?_)) <;> (try simp only [decide_eq_true_eq, decide_eq_false_iff_not, Bool.not_true, Bool.not_false, Bool.not_eq_true', Bool.not_eq_false', Bool.not_eq_eq_eq_not, Decidable.not_not] at h_) <;> (try simp only [r18_0, r18_1, r18_2, r18_3, r18_4, r18_5, r18_6, r18_7, r18_8, r18_9, r18_10, r18_12, r18_13, r18_14, r18_15, r18_16, r18_11, r18_17, r18_18, r18_20, r18_21, r18_19, r18_22, r18_23, r18_24, r18_25, r18_26, r18_27, r18_29, r18_30, r18_28, r18_31, c18, F18, h_, go_sem, Int.reduceTMod, Int.reduceTDiv, Int.reduceDiv, Int.reduceMod, Int.reduceAdd, Int.reduceSub, Int.reduceMul, Int.reduceNeg, Int.reducePow, Int.reduceEq, ↓reduceIte, Nat.reduceEqDiff, Nat.reduceAdd, Nat.reduceMul, Nat.reduceLeDiff, Nat.reduceSub, Nat.reduceLT, Int.reduceToNat, Int.reduceLT, Int.reduceLE, reduceCtorEq]))
              exact good _ _ _ ht hO
          · rw [if_neg (by decide), if_pos rfl] at hs
            unfold at2 at hs
            have hp : q[0]? = some (q[0]'(by omega)) := List.getElem?_eq_getElem (by omega)
            have hpL : q[q.length - 1]? = some (q[q.length - 1]'(by omega)) := List.getElem?_eq_getElem (by omega)
            have hr3 : RPt M3 N3 r1 q := hr2.keep' (by omega) (fun id hid => by rw [tm id (hbel id hid), sm id (hbel id hid)])
            have hp1 : q[1]? = some (q[1]'(by omega)) := List.getElem?_eq_getElem (by omega)
            have hp2 : q[q.length - 2]? = some (q[q.length - 2]'(by omega)) := List.getElem?_eq_getElem (by omega)
            obtain ⟨id, off, cap', hra, hid, hrd⟩ := hr3.at cs2 hp
            obtain ⟨id3, off3, cap3, hra3, _, hrd1⟩ := hr3.at cs2 hp1
            obtain ⟨id4, off4, cap4, hra4, _, hrd2⟩ := hr3.at cs2 hp2
            obtain ⟨id', off', cap2, hra', hid', hrdL⟩ := hr3.at cs2 hpL
            rw [hra] at hra' hra3 hra4
            simp only [Reg.one.injEq, Cell.sl.injEq, true_and] at hra' hra3 hra4
            obtain ⟨rfl, rfl, _⟩ := hra3
            obtain ⟨rfl, rfl, _⟩ := hra4
            obtain ⟨rfl, rfl, rfl, _⟩ := hra'
            rw [Nat.zero_mul, Nat.add_zero] at hrd
            have ip := all_at hal hp
            have ipL := all_at hal hpL
            have ip1 := all_at hal hp1
            have ip2 := all_at hal hp2
            have a01 := hadj 0 _ _ hp hp1
            have aLL := hadj (q.length - 2) _ _ hp2 (by rw [show q.length - 2 + 1 = q.length - 1 by omega]; exact hpL)
            have g01 := sL 0 (by omega) _ _ hp hp1
            have gLL := sL (q.length - 2) (by omega) _ _ hp2 (by rw [show q.length - 2 + 1 = q.length - 1 by omega]; exact hpL)
            have d2 : ((1 : Int) < (q.length : Int)) = True := eq_true (by omega)
            have d6 : IntKind.i64.wrap ((q.length : Int) - 2) = (q.length : Int) - 2 := wr_eq (by omega) (by omega)
            have d7 : (0 ≤ (q.length : Int) - 2) = True := eq_true (by omega)
            have d9 : ((q.length : Int) - 2 < (q.length : Int)) = True := eq_true (by omega)
            have d10 : ((q.length : Int) - 2).toNat = q.length - 2 := by omega
            have d1 : ((0 : Int) < (q.length : Int)) = True := eq_true (by omega)
            have d3 : (0 ≤ (q.length : Int) - 1) = True := eq_true (by omega)
            have d4 : ((q.length : Int) - 1 < (q.length : Int)) = True := eq_true (by omega)
            have d5 : IntKind.i64.wrap ((q.length : Int) - 1) = (q.length : Int) - 1 := wr_eq (by omega) (by omega)
            have d8 : ((q.length : Int) - 1).toNat = q.length - 1 := by omega
            rw [hra] at t0
            rw [hp, hp1, hp2, hpL] at hs
            have hs2 : alongI h q false ++ [firstI h (q[0]'(by omega)) (q[1]'(by omega))] ++ [lastI h (q[q.length - 2]'(by omega)) (q[q.length - 1]'(by omega))] = strokeI q false h 2 := by rw [hs, List.append_assoc]
            generalize (q[0]'(by omega)) = u at *
            generalize (q[1]'(by omega)) = u1 at *
            generalize (q[q.length - 2]'(by omega)) = v1 at *
            generalize (q[q.length - 1]'(by omega)) = v at *
            have okB : ∀ x ∈ alongI h q false ++ [firstI h u u1] ++ [lastI h v1 v], x.1 = x.2.all inP := fun x hx => by
              rw [List.mem_append, List.mem_append, List.mem_singleton, List.mem_singleton] at hx
              rcases hx with (hx | hx) | hx
              · exact okA x hx
              · subst hx; rfl
              · subst hx; rfl
            have l16 : ∀ x ∈ alongI h q false ++ [firstI h u u1] ++ [lastI h v1 v], x.2.length < 4294967296 := fun x hx => by
              rw [List.mem_append, List.mem_append, List.mem_singleton, List.mem_singleton] at hx
              rcases hx with (hx | hx) | hx
              · exact along_l16 h q false x hx
              · subst hx; show 4 < 4294967296; decide
              · subst hx; show 4 < 4294967296; decide
            try simp only [r18_0, r18_1, r18_2, r18_3, r18_4, r18_5, r18_6, r18_7, r18_8, r18_9, r18_10, r18_12, r18_13, r18_14, r18_15, r18_16, r18_11, r18_17, r18_18, r18_20, r18_21, r18_19, r18_22, r18_23, r18_24, r18_25, r18_26, r18_27, r18_29, r18_30, r18_28, r18_31, c18, F18, t0, t1, t2, t3, t11, c2, d1, d2, hrd, hrd1, Nat.one_mul, Int.toNat_zero, Int.reduceToNat, Nat.zero_mul, Nat.add_zero, go_sem, Int.reduceTMod, Int.reduceTDiv, Int.reduceDiv, Int.reduceMod, Int.reduceAdd, Int.reduceSub, Int.reduceMul, Int.reduceNeg, Int.reducePow, Int.reduceEq, ↓reduceIte, Nat.reduceEqDiff, Nat.reduceAdd, Nat.reduceMul, Nat.reduceLeDiff, Nat.reduceSub, Nat.reduceLT, Int.reduceToNat, Int.reduceLT, Int.reduceLE, reduceCtorEq]
            repeat' ((first | refine FK_split (fun h_ => ?_) (fun h_ => ?_) | refine GK_split (fun h_ => ?_) (fun h_ => ?_) | refine ite_both (fun h_ => ?_) (fun h_ => ?_)) <;> (try simp only [decide_eq_true_eq, decide_eq_false_iff_not, Bool.not_true, Bool.not_false, Bool.not_eq_true', Bool.not_eq_false', Bool.not_eq_eq_eq_not, Decidable.not_not] at h_) <;> (try simp only [r18_0, r18_1, r18_2, r18_3, r18_4, r18_5, r18_6, r18_7, r18_8, r18_9, r18_10, r18_12, r18_13, r18_14, r18_15, r18_16, r18_11, r18_17, r18_18, r18_20, r18_21, r18_19, r18_22, r18_23, r18_24, r18_25, r18_26, r18_27, r18_29, r18_30, r18_28, r18_31, c18, F18, t0, t1, t2, t3, t11, c2, d1, d2, hrd, hrd1, Nat.one_mul, Int.toNat_zero, Int.reduceToNat, Nat.zero_mul, Nat.add_zero, h_, go_sem, Int.reduceTMod, Int.reduceTDiv, Int.reduceDiv, Int.reduceMod, Int.reduceAdd, Int.reduceSub, Int.reduceMul, Int.reduceNeg, Int.reducePow, Int.reduceEq, ↓reduceIte, Nat.reduceEqDiff, Nat.reduceAdd, Nat.reduceMul, Nat.reduceLeDiff, Nat.reduceSub, Nat.reduceLT, Int.reduceToNat, Int.reduceLT, Int.reduceLE, reduceCtorEq]))
            refine RK_callk ?_
            refine (w_rFirst ip ip1 a01 h1 h2 g01 _ _).mono ?_
            rintro _ m4 n4 ⟨hn4, x, rfl, hx, hxi⟩
            obtain ⟨hO4, hx4, hxs4⟩ := row_after tO (by omega) hx hxi
            rw [← rd_unfrz (m' := m4) hid] at hrdL hrd2
            try simp only [r18_0, r18_1, r18_2, r18_3, r18_4, r18_5, r18_6, r18_7, r18_8, r18_9, r18_10, r18_12, r18_13, r18_14, r18_15, r18_16, r18_11, r18_17, r18_18, r18_20, r18_21, r18_19, r18_22, r18_23, r18_24, r18_25, r18_26, r18_27, r18_29, r18_30, r18_28, r18_31, c18, F18, t0, t1, t2, t3, t11, d3, d4, d5, d6, d7, d8, d9, d10, hrdL, hrd2, go_sem, Int.reduceTMod, Int.reduceTDiv, Int.reduceDiv, Int.reduceMod, Int.reduceAdd, Int.reduceSub, Int.reduceMul, Int.reduceNeg, Int.reducePow, Int.reduceEq, ↓reduceIte, Nat.reduceEqDiff, Nat.reduceAdd, Nat.reduceMul, Nat.reduceLeDiff, Nat.reduceSub, Nat.reduceLT, Int.reduceToNat, Int.reduceLT, Int.reduceLE, reduceCtorEq]
            repeat' ((first | refine FK_split (fun h_ => ?_) (fun h_ => ?_) | refine GK_split (fun h_ => ?_) (fun h_ => ?_) | refine ite_both (fun h_ => ?_) (fun h_ => ?_)) <;> (try simp only [decide_eq_true_eq, decide_eq_false_iff_not, Bool.not_true, Bool.not_false, Bool.not_eq_true', Bool.not_eq_false', Bool.not_eq_eq_eq_not, Decidable.not_not] at h_) <;> (try simp only [r18_0, r18_1, r18_2, r18_3, r18_4, r18_5, r18_6, r18_7, r18_8, r18_9, r18_10, r18_12, r18_13, r18_14, r18_15, r18_16, r18_11, r18_17, r18_18, r18_20, r18_21, r18_19, r18_22, r18_23, r18_24, r18_25, r18_26, r18_27, r18_29, r18_30, r18_28, r18_31, c18, F18, t0, t1, t2, t3, t11, d3, d4, d5, d6, d7, d8, d9, d10, hrdL, hrd2, h_, go_sem, Int.reduceTMod, Int.reduceTDiv, Int.reduceDiv, Int.reduceMod, Int.reduceAdd, Int.reduceSub, Int.reduceMul, Int.reduceNeg, Int.reducePow, Int.reduceEq, ↓reduceIte, Nat.reduceEqDiff, Nat.reduceAdd, Nat.reduceMul, Nat.reduceLeDiff, Nat.reduceSub, Nat.reduceLT, Int.reduceToNat, Int.reduceLT, Int.reduceLE, reduceCtorEq]))
            refine RK_callk ?_
            refine (w_rLast ip2 ipL aLL h1 h2 gLL _ _).mono ?_
            rintro _ m5 n5 ⟨hn5, y, rfl, hy, hyi⟩
            obtain ⟨hO5, hy5, hys5⟩ := row_after hO4 (by omega) hy hyi
            have hx5 : RPt (unfrz (unfrz M3 N3 m4) (max N3 n4) m5) (max (max N3 n4) n5) (.one x) (firstQ u u1 h) := hx4.keep (by omega) (fun id hid => by rw [unfrz_at, if_pos hid])
            try simp only [r18_0, r18_1, r18_2, r18_3, r18_4, r18_5, r18_6, r18_7, r18_8, r18_9, r18_10, r18_12, r18_13, r18_14, r18_15, r18_16, r18_11, r18_17, r18_18, r18_20, r18_21, r18_19, r18_22, r18_23, r18_24, r18_25, r18_26, r18_27, r18_29, r18_30, r18_28, r18_31, c18, F18, go_sem, Int.reduceTMod, Int.reduceTDiv, Int.reduceDiv, Int.reduceMod, Int.reduceAdd, Int.reduceSub, Int.reduceMul, Int.reduceNeg, Int.reducePow, Int.reduceEq, ↓reduceIte, Nat.reduceEqDiff, Nat.reduceAdd, Nat.reduceMul, Nat.reduceLeDiff, Nat.reduceSub, Nat.reduceLT, Int.reduceToNat, Int.reduceLT, Int.reduceLE, reduceCtorEq]
            repeat' ((first | refine FK_split (fun h_ => ?_) (fun h_ => ?_) | refine GK_split (fun h_ => ?_) (fun h_ => ?_) | refine ite_both (fun h_ => ?_) (fun h_ => ?_)) <;> (try simp only [decide_eq_true_eq, decide_eq_false_iff_not, Bool.not_true, Bool.not_false, Bool.not_eq_true', Bool.not_eq_false', Bool.not_eq_eq_eq_not, Decidable.not_not] at h_) <;> (try simp only [r18_0, r18_1, r18_2, r18_3, r18_4, r18_5, r18_6, r18_7, r18_8, r18_9, r18_10, r18_12, r18_13, r18_14, r18_15, r18_16, r18_11, r18_17, r18_18, r18_20, r18_21, r18_19, r18_22, r18_23, r18_24, r18_25, r18_26, r18_27, r18_29, r18_30, r18_28, r18_31, c18, F18, h_, go_sem, Int.reduceTMod, Int.reduceTDiv, Int.reduceDiv, Int.reduceMod, Int.reduceAdd, Int.reduceSub, Int.reduceMul, Int.reduceNeg, Int.reducePow, Int.reduceEq, ↓reduceIte, Nat.reduceEqDiff, Nat.reduceAdd, Nat.reduceMul, Nat.reduceLeDiff, Nat.reduceSub, Nat.reduceLT, Int.reduceToNat, Int.reduceLT, Int.reduceLE, reduceCtorEq]))
            refine row_push_two hO5 (by omega) hx5 hxs4 hy5 hys5 (by rw [List.length_map]; omega) ?_
            intro c' m' hO9 hf
            try simp only [r18_0, r18_1, r18_2, r18_3, r18_4, r18_5, r18_6, r18_7, r18_8, r18_9, r18_10, r18_12, r18_13, r18_14, r18_15, r18_16, r18_11, r18_17, r18_18, r18_20, r18_21, r18_19, r18_22, r18_23, r18_24, r18_25, r18_26, r18_27, r18_29, r18_30, r18_28, r18_31, c18, F18, t1, t3, t11, c2, go_sem, Int.reduceTMod, Int.reduceTDiv, Int.reduceDiv, Int.reduceMod, Int.reduceAdd, Int.reduceSub, Int.reduceMul, Int.reduceNeg, Int.reducePow, Int.reduceEq, ↓reduceIte, Nat.reduceEqDiff, Nat.reduceAdd, Nat.reduceMul, Nat.reduceLeDiff, Nat.reduceSub, Nat.reduceLT, Int.reduceToNat, Int.reduceLT, Int.reduceLE, reduceCtorEq]
            repeat' ((first | refine FK_split (fun h_ => ?_) (fun h_ => ?_) | refine GK_split (fun h_ => ?_) (fun h_ => ?_) | refine ite_both (fun h_ => ?_) (fun h_ => ?_)) <;> (try simp only [decide_eq_true_eq, decide_eq_false_iff_not, Bool.not_true, Bool.not_false, Bool.not_eq_true', Bool.not_eq_false', Bool.not_eq_eq_eq_not, Decidable.not_not] at h_) <;> (try simp only [r18_0, r18_1, r18_2, r18_3, r18_4, r18_5, r18_6, r18_7, r18_8, r18_9, r18_10, r18_12, r18_13, r18_14, r18_15, r18_16, r18_11, r18_17, r18_18, r18_20, r18_21, r18_19, r18_22, r18_23, r18_24, r18_25, r18_26, r18_27, r18_29, r18_30, r18_28, r18_31, c18, F18, t1, t3, t11, c2, h_, go_sem, Int.reduceTMod, Int.reduceTDiv, Int.reduceDiv, Int.reduceMod, Int.reduceAdd, Int.reduceSub, Int.reduceMul, Int.reduceNeg, Int.reducePow, Int.reduceEq, ↓reduceIte, Nat.reduceEqDiff, Nat.reduceAdd, Nat.reduceMul, Nat.reduceLeDiff, Nat.reduceSub, Nat.reduceLT, Int.reduceToNat, Int.reduceLT, Int.reduceLE, reduceCtorEq]))
            refine tail _ hs2 okB _ _ _ _ (by simp only [go_sem, Int.reduceTMod, Int.reduceTDiv, Int.reduceDiv, Int.reduceMod, Int.reduceAdd, Int.reduceSub, Int.reduceMul, Int.reduceNeg, Int.reducePow, Int.reduceEq, ↓reduceIte, Nat.reduceEqDiff, Nat.reduceAdd, Nat.reduceMul, Nat.reduceLeDiff, Nat.reduceSub, Nat.reduceLT, Int.reduceToNat, Int.reduceLT, Int.reduceLE, reduceCtorEq]; rw [List.map_append, List.map_append]; exact hO9) (by simp only [go_sem, Int.reduceTMod, Int.reduceTDiv, Int.reduceDiv, Int.reduceMod, Int.reduceAdd, Int.reduceSub, Int.reduceMul, Int.reduceNeg, Int.reducePow, Int.reduceEq, ↓reduceIte, Nat.reduceEqDiff, Nat.reduceAdd, Nat.reduceMul, Nat.reduceLeDiff, Nat.reduceSub, Nat.reduceLT, Int.reduceToNat, Int.reduceLT, Int.reduceLE, reduceCtorEq]) (fun l hl => ?_) (by simp only [List.length_append, List.length_cons, List.length_nil]; omega) (fun hf s a b => ?_) (fun ht s hO => ?_)
            · obtain ⟨x, hx, rfl⟩ := List.mem_map.1 hl
              exact l16 x hx
            · skip
              try simp only [a, b, go_sem, Int.reduceTMod, Int.reduceTDiv, Int.reduceDiv, Int.reduceMod, Int.reduceAdd, Int.reduceSub, Int.reduceMul, Int.reduceNeg, Int.reducePow, Int.reduceEq, ↓reduceIte, Nat.reduceEqDiff, Nat.reduceAdd, Nat.reduceMul, Nat.reduceLeDiff, Nat.reduceSub, Nat.reduceLT, Int.reduceToNat, Int.reduceLT, Int.reduceLE, reduceCtorEq]
              repeat' ((first | refine FK_split (fun h_ => ?_) (fun h_ => ?_) | refine GK_split (fun h_ => ?_) (fun h_ => ?_) | refine ite_both (fun h_ => ?_) (fun h_ => ?_)) <;> (try simp only [decide_eq_true_eq, decide_eq_false_iff_not, Bool.not_true, Bool.not_false, Bool.not_eq_true', Bool.not_eq_false', Bool.not_eq_eq_eq_not, Decidable.not_not] at h_) <;> (try simp only [a, b, h_, go_sem, Int.reduceTMod, Int.reduceTDiv, Int.reduceDiv, Int.reduceMod, Int.reduceAdd, Int.reduceSub, Int.reduceMul, Int.reduceNeg, Int.reducePow, Int.reduceEq, ↓reduceIte, Nat.reduceEqDiff, Nat.reduceAdd, Nat.reduceMul, Nat.reduceLeDiff, Nat.reduceSub, Nat.reduceLT, Int.reduceToNat, Int.reduceLT, Int.reduceLE, reduceCtorEq]))
              exact bad _ _ hf
            · skip
              try simp only [r18_0, r18_1, r18_2, r18_3, r18_4, r18_5, r18_6, r18_7, r18_8, r18_9, r18_10, r18_12, r18_13, r18_14, r18_15, r18_16, r18_11, r18_17, r18_18, r18_20, r18_21, r18_19, r18_22, r18_23, r18_24, r18_25, r18_26, r18_27, r18_29, r18_30, r18_28, r18_31, c18, F18, go_sem, Int.reduceTMod, Int.reduceTDiv, Int.reduceDiv, Int.reduceMod, Int.reduceAdd, Int.reduceSub, Int.reduceMul, Int.reduceNeg, Int.reducePow, Int.reduceEq, ↓reduceIte, Nat.reduceEqDiff, Nat.reduceAdd, Nat.reduceMul, Nat.reduceLeDiff, Nat.reduceSub, Nat.reduceLT, Int.reduceToNat, Int.reduceLT, Int.reduceLE, reduceCtorEq]
              repeat' ((first | refine FK_split (fun h_ => ?_) (fun h_ => ?_) | refine GK_split (fun h_ => ?_) (fun h_ => ?_) | refine ite_both (fun h_ => ?_) (fun h_ => ?_)) <;> (try simp only [decide_eq_true_eq, decide_eq_false_iff_not, Bool.not_true, Bool.not_false, Bool.not_eq_true', Bool.not_eq_false', Bool.not_eq_eq_eq_not, Decidable.not_not] at h_) <;> (try simp only [r18_0, r18_1, r18_2, r18_3, r18_4, r18_5, r18_6, r18_7, r18_8, r18_9, r18_10, r18_12, r18_13, r18_14, r18_15, r18_16, r18_11, r18_17, r18_18, r18_20, r18_21, r18_19, r18_22, r18_23, r18_24, r18_25, r18_26, r18_27, r18_29, r18_30, r18_28, r18_31, c18, F18, h_, go_sem, Int.reduceTMod, Int.reduceTDiv, Int.reduceDiv, Int.reduceMod, Int.reduceAdd, Int.reduceSub, Int.reduceMul, Int.reduceNeg, Int.reducePow, Int.reduceEq, ↓reduceIte, Nat.reduceEqDiff, Nat.reduceAdd, Nat.reduceMul, Nat.reduceLeDiff, Nat.reduceSub, Nat.reduceLT, Int.reduceToNat, Int.reduceLT, Int.reduceLE, reduceCtorEq]))
              exact good _ _ _ ht hO
        · have hs2 : alongI h q true = strokeI q true h cap := by rw [hs, if_pos rfl, List.append_nil, hal2]
          try simp only [r18_0, r18_1, r18_2, r18_3, r18_4, r18_5, r18_6, r18_7, r18_8, r18_9, r18_10, r18_12, r18_13, r18_14, r18_15, r18_16, r18_11, r18_17, r18_18, r18_20, r18_21, r18_19, r18_22, r18_23, r18_24, r18_25, r18_26, r18_27, r18_29, r18_30, r18_28, r18_31, c18, F18, t1, t11, c2, go_sem, Int.reduceTMod, Int.reduceTDiv, Int.reduceDiv, Int.reduceMod, Int.reduceAdd, Int.reduceSub, Int.reduceMul, Int.reduceNeg, Int.reducePow, Int.reduceEq, ↓reduceIte, Nat.reduceEqDiff, Nat.reduceAdd, Nat.reduceMul, Nat.reduceLeDiff, Nat.reduceSub, Nat.reduceLT, Int.reduceToNat, Int.reduceLT, Int.reduceLE, reduceCtorEq]
          repeat' ((first | refine FK_split (fun h_ => ?_) (fun h_ => ?_) | refine GK_split (fun h_ => ?_) (fun h_ => ?_) | refine ite_both (fun h_ => ?_) (fun h_ => ?_)) <;> (try simp only [decide_eq_true_eq, decide_eq_false_iff_not, Bool.not_true, Bool.not_false, Bool.not_eq_true', Bool.not_eq_false', Bool.not_eq_eq_eq_not, Decidable.not_not] at h_) <;> (try simp only [r18_0, r18_1, r18_2, r18_3, r18_4, r18_5, r18_6, r18_7, r18_8, r18_9, r18_10, r18_12, r18_13, r18_14, r18_15, r18_16, r18_11, r18_17, r18_18, r18_20, r18_21, r18_19, r18_22, r18_23, r18_24, r18_25, r18_26, r18_27, r18_29, r18_30, r18_28, r18_31, c18, F18, t1, t11, c2, h_, go_sem, Int.reduceTMod, Int.reduceTDiv, Int.reduceDiv, Int.reduceMod, Int.reduceAdd, Int.reduceSub, Int.reduceMul, Int.reduceNeg, Int.reducePow, Int.reduceEq, ↓reduceIte, Nat.reduceEqDiff, Nat.reduceAdd, Nat.reduceMul, Nat.reduceLeDiff, Nat.reduceSub, Nat.reduceLT, Int.reduceToNat, Int.reduceLT, Int.reduceLE, reduceCtorEq]))
          refine tail _ hs2 okA _ _ _ _ (by simp only [go_sem, Int.reduceTMod, Int.reduceTDiv, Int.reduceDiv, Int.reduceMod, Int.reduceAdd, Int.reduceSub, Int.reduceMul, Int.reduceNeg, Int.reducePow, Int.reduceEq, ↓reduceIte, Nat.reduceEqDiff, Nat.reduceAdd, Nat.reduceMul, Nat.reduceLeDiff, Nat.reduceSub, Nat.reduceLT, Int.reduceToNat, Int.reduceLT, Int.reduceLE, reduceCtorEq]; exact tO) (by simp only [go_sem, Int.reduceTMod, Int.reduceTDiv, Int.reduceDiv, Int.reduceMod, Int.reduceAdd, Int.reduceSub, Int.reduceMul, Int.reduceNeg, Int.reducePow, Int.reduceEq, ↓reduceIte, Nat.reduceEqDiff, Nat.reduceAdd, Nat.reduceMul, Nat.reduceLeDiff, Nat.reduceSub, Nat.reduceLT, Int.reduceToNat, Int.reduceLT, Int.reduceLE, reduceCtorEq]) (fun l hl => ?_) (by omega) (fun hf s a b => ?_) (fun ht s hO => ?_)
          · obtain ⟨x, hx, rfl⟩ := List.mem_map.1 hl
            exact along_l16 h q true x hx
          · skip
            try simp only [a, b, go_sem, Int.reduceTMod, Int.reduceTDiv, Int.reduceDiv, Int.reduceMod, Int.reduceAdd, Int.reduceSub, Int.reduceMul, Int.reduceNeg, Int.reducePow, Int.reduceEq, ↓reduceIte, Nat.reduceEqDiff, Nat.reduceAdd, Nat.reduceMul, Nat.reduceLeDiff, Nat.reduceSub, Nat.reduceLT, Int.reduceToNat, Int.reduceLT, Int.reduceLE, reduceCtorEq]
            repeat' ((first | refine FK_split (fun h_ => ?_) (fun h_ => ?_) | refine GK_split (fun h_ => ?_) (fun h_ => ?_) | refine ite_both (fun h_ => ?_) (fun h_ => ?_)) <;> (try simp only [decide_eq_true_eq, decide_eq_false_iff_not, Bool.not_true, Bool.not_false, Bool.not_eq_true', Bool.not_eq_false', Bool.not_eq_eq_eq_not, Decidable.not_not] at h_) <;> (try simp only [a, b, h_, go_sem, Int.reduceTMod, Int.reduceTDiv, Int.reduceDiv, Int.reduceMod, Int.reduceAdd, Int.reduceSub, Int.reduceMul, Int.reduceNeg, Int.reducePow, Int.reduceEq, ↓reduceIte, Nat.reduceEqDiff, Nat.reduceAdd, Nat.reduceMul, Nat.reduceLeDiff, Nat.reduceSub, Nat.reduceLT, Int.reduceToNat, Int.reduceLT, Int.reduceLE, reduceCtorEq]))
            exact bad _ _ hf
          · skip
            try simp only [r18_0, r18_1, r18_2, r18_3, r18_4, r18_5, r18_6, r18_7, r18_8, r18_9, r18_10, r18_12, r18_13, r18_14, r18_15, r18_16, r18_11, r18_17, r18_18, r18_20, r18_21, r18_19, r18_22, r18_23, r18_24, r18_25, r18_26, r18_27, r18_29, r18_30, r18_28, r18_31, c18, F18, go_sem, Int.reduceTMod, Int.reduceTDiv, Int.reduceDiv, Int.reduceMod, Int.reduceAdd, Int.reduceSub, Int.reduceMul, Int.reduceNeg, Int.reducePow, Int.reduceEq, ↓reduceIte, Nat.reduceEqDiff, Nat.reduceAdd, Nat.reduceMul, Nat.reduceLeDiff, Nat.reduceSub, Nat.reduceLT, Int.reduceToNat, Int.reduceLT, Int.reduceLE, reduceCtorEq]
            repeat' ((first | refine FK_split (fun h_ => ?_) (fun h_ => ?_) | refine GK_split (fun h_ => ?_) (fun h_ => ?_) | refine ite_both (fun h_ => ?_) (fun h_ => ?_)) <;> (try simp only [decide_eq_true_eq, decide_eq_false_iff_not, Bool.not_true, Bool.not_false, Bool.not_eq_true', Bool.not_eq_false', Bool.not_eq_eq_eq_not, Decidable.not_not] at h_) <;> (try simp only [r18_0, r18_1, r18_2, r18_3, r18_4, r18_5, r18_6, r18_7, r18_8, r18_9, r18_10, r18_12, r18_13, r18_14, r18_15, r18_16, r18_11, r18_17, r18_18, r18_20, r18_21, r18_19, r18_22, r18_23, r18_24, r18_25, r18_26, r18_27, r18_29, r18_30, r18_28, r18_31, c18, F18, h_, go_sem, Int.reduceTMod, Int.reduceTDiv, Int.reduceDiv, Int.reduceMod, Int.reduceAdd, Int.reduceSub, Int.reduceMul, Int.reduceNeg, Int.reducePow, Int.reduceEq, ↓reduceIte, Nat.reduceEqDiff, Nat.reduceAdd, Nat.reduceMul, Nat.reduceLeDiff, Nat.reduceSub, Nat.reduceLT, Int.reduceToNat, Int.reduceLT, Int.reduceLE, reduceCtorEq]))
            exact good _ _ _ ht hO
end Go.Proofs.YtidpeongblkcbaaDoor.Sy

/- The law StrokePens walked. Conditions: those that each theorem names. -/
namespace Go.Proofs.YtidpeongblkcbaaDoor.Sy
open Go Go.Proofs
set_option linter.unusedSimpArgs false
set_option linter.unusedVariables false
set_option maxRecDepth 20000
attribute [local go_sem] XK_seq XK_block XK_skip XK_exit XK_ret XK_cond XK_reg XK_dreg XK_ureg KN_seq KN_blk KN_lp KN_chk KN_chku KN_top KN_fin KX_seq KX_lp KX_blk KX_chk KX_top KR_seq KR_blk KR_lp KR_chk KR_top KR_fin FK_true FK_false RK_nil RK_mv RK_pick RK_alloc RK_box RK_build RK_bslice RK_load1 RK_loadA RK_store RK_nilchk RK_bin RK_beq RK_eqv RK_eqnil RK_un RK_conv RK_mkfn RK_mkslice RK_slS RK_slA RK_fadr RK_fld RK_iadrA RK_iadrS RK_idxA RK_ext RK_lenC RK_cap RK_app RK_cpy RK_mn RK_mx RK_len RK_carry RK_clr carryR um0 um1 ThenK_some RK_guard GK_tt GK_ff GK_tf GK_ft GK_none QK_some RK_callQ RK_callZ VK_clo RK_callV
  evalOp evO evOs upd_at unfrz_at putE_some putE_none boolOf_b boolOf_tup Option.map_some evRes pack_one pack_two pack_three pack_none List.getD_cons_zero List.getD_cons_succ getD_nil
  Option.some.injEq exists_eq_left' Reg.cs? fillC setL List.set_cons_zero List.set_cons_succ List.length_cons List.length_nil rd_upd rd_updn rdB wr List.drop_zero List.drop_succ_cons List.take_succ_cons List.take_zero List.getElem?_cons_zero List.getElem?_cons_succ
  ix Int.toNat_zero lenO_sl lenO_nil nadd na_eq na_eq' na_lt na_ee na_ll na_ne na_ne' na_tt
attribute [local go_sem] Reg.flat_one Reg.flat_agg Reg.flat_tup flats_nil flats_cons Cell.flat_sc Cell.flat_ptr List.all_cons List.all_nil disOk safeOk safeR decide_eq_true_eq decide_eq_false_iff_not
  List.map_cons List.map_nil List.cons_append List.nil_append List.append_nil evalOp.capsOf Bool.false_bne Bool.bne_false Bool.true_bne Bool.bne_true bne_self_eq_false beq_self_eq_true Bool.not_not Bool.false_and Bool.and_false Bool.true_or Bool.or_true beq_iff_eq eqCells
  Bool.true_beq Bool.false_beq Bool.not_eq_true' Bool.not_eq_eq_eq_not Bool.not_eq_false' and_false false_and frz_at idOf Option.isSome_some Bool.and_eq_true
attribute [local go_sem] wr_eq bV_add bV_sub bV_mul bV_eql bV_neq bV_lss bV_leq bV_gtr bV_geq bV_quo bV_rem bV_shr bV_shl uV_not uV_neg wrapU bits_and bits_or bits_xor IntKind.bits Nat.min_eq_left Nat.min_eq_right Nat.min_self
attribute [local go_sem] bne_iff_ne Int.cast_ofNat_Int Nat.zero_add Nat.add_zero and_self and_true true_and ne_eq not_false_eq_true not_true_eq_false decide_true decide_false Bool.false_eq_true Bool.not_true Bool.not_false Bool.true_and Bool.and_true Bool.or_false Bool.false_or Bool.and_self

theorem OL.sidge {base : Nat} {m : Mem} {n : Nat} {r : Reg} {l : List Pt} (h : OPt base m n r l) {id : Nat} (hi : sid r = some id) : base ≤ id := by
  rcases h with ⟨rfl, _⟩ | ⟨id', rfl, h2, _⟩
  · cases hi
  · simp only [sid, Option.some.injEq] at hi; omega
theorem at1_mem {f : Pt → List (Bool × List Pt)} {q : List Pt} {i : Nat} {x : Bool × List Pt} (hx : x ∈ at1 f q i) : ∃ p, q[i]? = some p ∧ x ∈ f p := by
  unfold at1 at hx
  split at hx
  · exact ⟨_, by assumption, hx⟩
  · cases hx
theorem at2_mem {f : Pt → Pt → Bool × List Pt} {q : List Pt} {i j : Nat} {x : Bool × List Pt} (hx : x ∈ at2 f q i j) : ∃ p r, q[i]? = some p ∧ q[j]? = some r ∧ x = f p r := by
  unfold at2 at hx
  split at hx
  · exact ⟨_, _, by assumption, by assumption, List.mem_singleton.1 hx⟩
  · cases hx
theorem stroke_l16 (h : Int) (q : List Pt) (c : Bool) (cap : Int) : ∀ x ∈ strokeI q c h cap, x.2.length < 4294967296 := fun x hx => by
  have d16 : ∀ (i : Nat) (y : Bool × List Pt), y ∈ at1 (fun p => [discI h p]) q i → y.2.length < 4294967296 := fun i y hy => by
    obtain ⟨p, _, hy⟩ := at1_mem hy
    rw [List.mem_singleton] at hy
    subst hy
    show 16 < 4294967296; decide
  unfold strokeI at hx
  split at hx
  · split at hx
    · exact d16 _ _ hx
    · split at hx
      · obtain ⟨p, _, hx⟩ := at1_mem hx
        rw [List.mem_singleton] at hx
        subst hx
        show 4 < 4294967296; decide
      · cases hx
  · split at hx
    · rw [List.mem_append] at hx
      rcases hx with hx | hx
      · exact along_l16 h q c x hx
      · split at hx
        · cases hx
        · split at hx
          · rw [List.mem_append] at hx
            rcases hx with hx | hx
            · exact d16 _ _ hx
            · exact d16 _ _ hx
          · split at hx
            · rw [List.mem_append] at hx
              rcases hx with hx | hx
              · obtain ⟨p, r, _, _, rfl⟩ := at2_mem hx
                show 4 < 4294967296; decide
              · obtain ⟨p, r, _, _, rfl⟩ := at2_mem hx
                show 4 < 4294967296; decide
            · cases hx
    · cases hx
theorem at1_len (g : Pt → Bool × List Pt) (q : List Pt) (i : Nat) : (at1 (fun p => [g p]) q i).length ≤ 1 := by
  unfold at1; split <;> simp
theorem at2_len (f : Pt → Pt → Bool × List Pt) (q : List Pt) (i j : Nat) : (at2 f q i j).length ≤ 1 := by
  unfold at2; split <;> simp
theorem along_len (h : Int) (q : List Pt) (c : Bool) : (alongI h q c).length ≤ 2 * q.length + 1 := by
  have a := barsTo_len h q (q.length - 1)
  have b := barAt_len h q (q.length - 1) 0
  have d := discsTo_len h q c q.length
  unfold alongI
  rw [List.length_append, List.length_append]
  split <;> (try simp only [List.length_nil]) <;> omega
theorem stroke_len (h : Int) (q : List Pt) (c : Bool) (cap : Int) : (strokeI q c h cap).length ≤ 2 * q.length + 3 := by
  have a := along_len h q c
  have b := at1_len (discI h) q
  have d := at1_len (sqI h) q
  have e := at2_len (firstI h) q
  have f := at2_len (lastI h) q
  have b0 := b 0
  have bl := b (q.length - 1)
  have d0 := d 0
  have e0 := e 0 1
  have f0 := f (q.length - 2) (q.length - 1)
  unfold strokeI
  repeat' split
  all_goals (try rw [List.length_append]) <;> (try rw [List.length_append]) <;> (try simp only [List.length_nil]) <;> omega
set_option maxHeartbeats 4000000 in
theorem law4 (c0 : Cell) (l : List Pt) (c : Bool) (h cap : Int) (m : Mem) (n : Nat) (hr : RPt m n (.one c0) l) (h0n : 0 < n) (o : Bool) (hm0 : m 0 = some ⟨cosT, o⟩) : Fn TA 4 [.agg [c0, .sc (.bool c)], RI h, RI cap] m n (fun r _ _ => r = RB true) := by
  refine Fn_ofK (fn := F4) rfl (by simp [F4]) ?_
  have hlen := hr.len
  obtain ⟨M0, hM0⟩ : ∃ M0, M0 = upd m n (some ⟨[c0, .sc (.bool c)], true⟩) := ⟨_, rfl⟩
  have hr0 : RPt M0 (n + 1) (.one c0) l := hr.keep (by omega) (fun id hid => by rw [hM0]; exact upd_ne _ _ (by omega))
  have hn0 : M0 n = some ⟨[c0, .sc (.bool c)], true⟩ := by rw [hM0]; exact upd_same _ _ _
  have hz0 : M0 0 = some ⟨cosT, o⟩ := by rw [hM0, upd_ne _ _ (by omega)]; exact hm0
  by_cases g : 30 < (l.length : Int)
  · skip
    try simp only [r4_0, r4_1, r4_2, r4_3, r4_4, r4_5, r4_6, r4_7, r4_8, r4_9, r4_10, r4_11, r4_12, r4_13, r4_14, r4_15, r4_16, r4_17, r4_18, r4_19, r4_20, c4, F4, hlen, g, v_awake07, go_sem, Int.reduceTMod, Int.reduceTDiv, Int.reduceDiv, Int.reduceMod, Int.reduceAdd, Int.reduceSub, Int.reduceMul, Int.reduceNeg, Int.reducePow, Int.reduceEq, ↓reduceIte, Nat.reduceEqDiff, Nat.reduceAdd, Nat.reduceMul, Nat.reduceLeDiff, Nat.reduceSub, Nat.reduceLT, Int.reduceToNat, Int.reduceLT, Int.reduceLE, reduceCtorEq]
    repeat' ((first | refine FK_split (fun h_ => ?_) (fun h_ => ?_) | refine GK_split (fun h_ => ?_) (fun h_ => ?_) | refine ite_both (fun h_ => ?_) (fun h_ => ?_)) <;> (try simp only [decide_eq_true_eq, decide_eq_false_iff_not, Bool.not_true, Bool.not_false, Bool.not_eq_true', Bool.not_eq_false', Bool.not_eq_eq_eq_not, Decidable.not_not] at h_) <;> (try simp only [r4_0, r4_1, r4_2, r4_3, r4_4, r4_5, r4_6, r4_7, r4_8, r4_9, r4_10, r4_11, r4_12, r4_13, r4_14, r4_15, r4_16, r4_17, r4_18, r4_19, r4_20, c4, F4, hlen, g, v_awake07, h_, go_sem, Int.reduceTMod, Int.reduceTDiv, Int.reduceDiv, Int.reduceMod, Int.reduceAdd, Int.reduceSub, Int.reduceMul, Int.reduceNeg, Int.reducePow, Int.reduceEq, ↓reduceIte, Nat.reduceEqDiff, Nat.reduceAdd, Nat.reduceMul, Nat.reduceLeDiff, Nat.reduceSub, Nat.reduceLT, Int.reduceToNat, Int.reduceLT, Int.reduceLE, reduceCtorEq]))
  · skip
    try simp only [r4_0, r4_1, r4_2, r4_3, r4_4, r4_5, r4_6, r4_7, r4_8, r4_9, r4_10, r4_11, r4_12, r4_13, r4_14, r4_15, r4_16, r4_17, r4_18, r4_19, r4_20, c4, F4, hlen, g, go_sem, Int.reduceTMod, Int.reduceTDiv, Int.reduceDiv, Int.reduceMod, Int.reduceAdd, Int.reduceSub, Int.reduceMul, Int.reduceNeg, Int.reducePow, Int.reduceEq, ↓reduceIte, Nat.reduceEqDiff, Nat.reduceAdd, Nat.reduceMul, Nat.reduceLeDiff, Nat.reduceSub, Nat.reduceLT, Int.reduceToNat, Int.reduceLT, Int.reduceLE, reduceCtorEq]
    repeat' ((first | refine FK_split (fun h_ => ?_) (fun h_ => ?_) | refine GK_split (fun h_ => ?_) (fun h_ => ?_) | refine ite_both (fun h_ => ?_) (fun h_ => ?_)) <;> (try simp only [decide_eq_true_eq, decide_eq_false_iff_not, Bool.not_true, Bool.not_false, Bool.not_eq_true', Bool.not_eq_false', Bool.not_eq_eq_eq_not, Decidable.not_not] at h_) <;> (try simp only [r4_0, r4_1, r4_2, r4_3, r4_4, r4_5, r4_6, r4_7, r4_8, r4_9, r4_10, r4_11, r4_12, r4_13, r4_14, r4_15, r4_16, r4_17, r4_18, r4_19, r4_20, c4, F4, hlen, g, h_, go_sem, Int.reduceTMod, Int.reduceTDiv, Int.reduceDiv, Int.reduceMod, Int.reduceAdd, Int.reduceSub, Int.reduceMul, Int.reduceNeg, Int.reducePow, Int.reduceEq, ↓reduceIte, Nat.reduceEqDiff, Nat.reduceAdd, Nat.reduceMul, Nat.reduceLeDiff, Nat.reduceSub, Nat.reduceLT, Int.reduceToNat, Int.reduceLT, Int.reduceLE, reduceCtorEq]))
    rw [← hM0]
    refine RK_callk ?_
    refine (w_refs _ l _ _ hr0.frz (by omega)).mono ?_
    rintro r1 m1 n1 ⟨ho1, hn1⟩
    obtain ⟨M1, hM1⟩ : ∃ M1, M1 = unfrz M0 (n + 1) m1 := ⟨_, rfl⟩
    rw [← hM1, show max (n + 1) n1 = n1 by omega]
    have hr1 : RPt M1 n1 (.one c0) l := hr0.keep hn1 (fun id hid => by rw [hM1, unfrz_at, if_pos hid])
    have hx1 : RPt M1 n1 r1 l := (ho1.rl cs2).keep' (Nat.le_refl _) (fun id hid => by rw [hM1, unfrz_at, if_neg (by have := ho1.sidge hid; omega)])
    have hb1 : M1 n = some ⟨[c0, .sc (.bool c)], true⟩ := by rw [hM1, unfrz_at, if_pos (by omega)]; exact hn0
    have hz1 : M1 0 = some ⟨cosT, o⟩ := by rw [hM1, unfrz_at, if_pos (by omega)]; exact hz0
    try simp only [r4_0, r4_1, r4_2, r4_3, r4_4, r4_5, r4_6, r4_7, r4_8, r4_9, r4_10, r4_11, r4_12, r4_13, r4_14, r4_15, r4_16, r4_17, r4_18, r4_19, r4_20, c4, F4, hb1, rd_of hb1, go_sem, Int.reduceTMod, Int.reduceTDiv, Int.reduceDiv, Int.reduceMod, Int.reduceAdd, Int.reduceSub, Int.reduceMul, Int.reduceNeg, Int.reducePow, Int.reduceEq, ↓reduceIte, Nat.reduceEqDiff, Nat.reduceAdd, Nat.reduceMul, Nat.reduceLeDiff, Nat.reduceSub, Nat.reduceLT, Int.reduceToNat, Int.reduceLT, Int.reduceLE, reduceCtorEq]
    repeat' ((first | refine FK_split (fun h_ => ?_) (fun h_ => ?_) | refine GK_split (fun h_ => ?_) (fun h_ => ?_) | refine ite_both (fun h_ => ?_) (fun h_ => ?_)) <;> (try simp only [decide_eq_true_eq, decide_eq_false_iff_not, Bool.not_true, Bool.not_false, Bool.not_eq_true', Bool.not_eq_false', Bool.not_eq_eq_eq_not, Decidable.not_not] at h_) <;> (try simp only [r4_0, r4_1, r4_2, r4_3, r4_4, r4_5, r4_6, r4_7, r4_8, r4_9, r4_10, r4_11, r4_12, r4_13, r4_14, r4_15, r4_16, r4_17, r4_18, r4_19, r4_20, c4, F4, hb1, rd_of hb1, h_, go_sem, Int.reduceTMod, Int.reduceTDiv, Int.reduceDiv, Int.reduceMod, Int.reduceAdd, Int.reduceSub, Int.reduceMul, Int.reduceNeg, Int.reducePow, Int.reduceEq, ↓reduceIte, Nat.reduceEqDiff, Nat.reduceAdd, Nat.reduceMul, Nat.reduceLeDiff, Nat.reduceSub, Nat.reduceLT, Int.reduceToNat, Int.reduceLT, Int.reduceLE, reduceCtorEq]))
    refine RK_callk ?_
    refine (w_Stroke (c := c) (h := h) (cap := cap) (o := false) hr1.frz (by omega) (by omega) (by rw [frz_at, hz1]; rfl)).mono ?_
    rintro r2 m2 n2 ⟨x, k, rfl, hq1, hq2, hq3⟩
    obtain ⟨M2, hM2⟩ : ∃ M2, M2 = unfrz M1 n1 m2 := ⟨_, rfl⟩
    obtain ⟨N2, hN2⟩ : ∃ N2, N2 = max n1 n2 := ⟨_, rfl⟩
    rw [← hM2, ← hN2]
    have hn2 : n1 ≤ N2 := by omega
    have hr2 : RPt M2 N2 (.one c0) l := hr1.keep hn2 (fun id hid => by rw [hM2, unfrz_at, if_pos hid])
    have hx2 : RPt M2 N2 r1 l := hx1.keep hn2 (fun id hid => by rw [hM2, unfrz_at, if_pos hid])
    have hb2 : M2 n = some ⟨[c0, .sc (.bool c)], true⟩ := by rw [hM2, unfrz_at, if_pos (by omega)]; exact hb1
    have s2 := v_same (.one c0) r1 _ _ (frz M2) N2 hr2.frz hx2.frz (by omega)
    rw [decide_eq_true rfl] at s2
    have v1 := v_In07 r1 l (frz M2) N2 hx2.frz (by omega)
    by_cases g1 : (1 ≤ h ∧ h ≤ 32768) ∧ 0 ≤ cap ∧ cap ≤ 2
    · have gd : decide ((1 ≤ h ∧ h ≤ 32768) ∧ 0 ≤ cap ∧ cap ≤ 2) = true := decide_eq_true g1
      obtain ⟨⟨h1, h2⟩, k1, k2⟩ := g1
      have h1' : (h < 1) = False := eq_false (by omega)
      have h2' : (32768 < h) = False := eq_false (by omega)
      have h3' : (cap < 0) = False := eq_false (by omega)
      have h4' : (2 < cap) = False := eq_false (by omega)
      rw [gd, Bool.true_and] at hq1 hq2 hq3
      cases hi : l.all inP
      · obtain ⟨rfl, rfl⟩ := hq1 hi
        rw [hi] at v1
        try simp only [r4_0, r4_1, r4_2, r4_3, r4_4, r4_5, r4_6, r4_7, r4_8, r4_9, r4_10, r4_11, r4_12, r4_13, r4_14, r4_15, r4_16, r4_17, r4_18, r4_19, r4_20, c4, F4, hb2, rd_of hb2, s2, h1', h2', h3', h4', v1, v_awake07, go_sem, Int.reduceTMod, Int.reduceTDiv, Int.reduceDiv, Int.reduceMod, Int.reduceAdd, Int.reduceSub, Int.reduceMul, Int.reduceNeg, Int.reducePow, Int.reduceEq, ↓reduceIte, Nat.reduceEqDiff, Nat.reduceAdd, Nat.reduceMul, Nat.reduceLeDiff, Nat.reduceSub, Nat.reduceLT, Int.reduceToNat, Int.reduceLT, Int.reduceLE, reduceCtorEq]
        repeat' ((first | refine FK_split (fun h_ => ?_) (fun h_ => ?_) | refine GK_split (fun h_ => ?_) (fun h_ => ?_) | refine ite_both (fun h_ => ?_) (fun h_ => ?_)) <;> (try simp only [decide_eq_true_eq, decide_eq_false_iff_not, Bool.not_true, Bool.not_false, Bool.not_eq_true', Bool.not_eq_false', Bool.not_eq_eq_eq_not, Decidable.not_not] at h_) <;> (try simp only [r4_0, r4_1, r4_2, r4_3, r4_4, r4_5, r4_6, r4_7, r4_8, r4_9, r4_10, r4_11, r4_12, r4_13, r4_14, r4_15, r4_16, r4_17, r4_18, r4_19, r4_20, c4, F4, hb2, rd_of hb2, s2, h1', h2', h3', h4', v1, v_awake07, h_, go_sem, Int.reduceTMod, Int.reduceTDiv, Int.reduceDiv, Int.reduceMod, Int.reduceAdd, Int.reduceSub, Int.reduceMul, Int.reduceNeg, Int.reducePow, Int.reduceEq, ↓reduceIte, Nat.reduceEqDiff, Nat.reduceAdd, Nat.reduceMul, Nat.reduceLeDiff, Nat.reduceSub, Nat.reduceLT, Int.reduceToNat, Int.reduceLT, Int.reduceLE, reduceCtorEq]))
      · rw [hi] at v1
        try simp only [r4_0, r4_1, r4_2, r4_3, r4_4, r4_5, r4_6, r4_7, r4_8, r4_9, r4_10, r4_11, r4_12, r4_13, r4_14, r4_15, r4_16, r4_17, r4_18, r4_19, r4_20, c4, F4, hb2, rd_of hb2, s2, h1', h2', h3', h4', v1, go_sem, Int.reduceTMod, Int.reduceTDiv, Int.reduceDiv, Int.reduceMod, Int.reduceAdd, Int.reduceSub, Int.reduceMul, Int.reduceNeg, Int.reducePow, Int.reduceEq, ↓reduceIte, Nat.reduceEqDiff, Nat.reduceAdd, Nat.reduceMul, Nat.reduceLeDiff, Nat.reduceSub, Nat.reduceLT, Int.reduceToNat, Int.reduceLT, Int.reduceLE, reduceCtorEq]
        repeat' ((first | refine FK_split (fun h_ => ?_) (fun h_ => ?_) | refine GK_split (fun h_ => ?_) (fun h_ => ?_) | refine ite_both (fun h_ => ?_) (fun h_ => ?_)) <;> (try simp only [decide_eq_true_eq, decide_eq_false_iff_not, Bool.not_true, Bool.not_false, Bool.not_eq_true', Bool.not_eq_false', Bool.not_eq_eq_eq_not, Decidable.not_not] at h_) <;> (try simp only [r4_0, r4_1, r4_2, r4_3, r4_4, r4_5, r4_6, r4_7, r4_8, r4_9, r4_10, r4_11, r4_12, r4_13, r4_14, r4_15, r4_16, r4_17, r4_18, r4_19, r4_20, c4, F4, hb2, rd_of hb2, s2, h1', h2', h3', h4', v1, h_, go_sem, Int.reduceTMod, Int.reduceTDiv, Int.reduceDiv, Int.reduceMod, Int.reduceAdd, Int.reduceSub, Int.reduceMul, Int.reduceNeg, Int.reducePow, Int.reduceEq, ↓reduceIte, Nat.reduceEqDiff, Nat.reduceAdd, Nat.reduceMul, Nat.reduceLeDiff, Nat.reduceSub, Nat.reduceLT, Int.reduceToNat, Int.reduceLT, Int.reduceLE, reduceCtorEq]))
        refine RK_callk ?_
        refine (w_rStroke (c := c) hx2.frz (by omega) (by omega) h1 h2 k1 k2 hi).mono ?_
        rintro r3 m3 n3 ⟨y, rfl, hp1, hp2⟩
        obtain ⟨M3, hM3⟩ : ∃ M3, M3 = unfrz M2 N2 m3 := ⟨_, rfl⟩
        obtain ⟨N3, hN3⟩ : ∃ N3, N3 = max N2 n3 := ⟨_, rfl⟩
        rw [← hM3, ← hN3]
        cases ha : (strokeI (plainL l c) c h cap).all (·.1)
        · obtain ⟨rfl, rfl⟩ := hq2 hi ha
          try simp only [r4_0, r4_1, r4_2, r4_3, r4_4, r4_5, r4_6, r4_7, r4_8, r4_9, r4_10, r4_11, r4_12, r4_13, r4_14, r4_15, r4_16, r4_17, r4_18, r4_19, r4_20, c4, F4, v_awake07, go_sem, Int.reduceTMod, Int.reduceTDiv, Int.reduceDiv, Int.reduceMod, Int.reduceAdd, Int.reduceSub, Int.reduceMul, Int.reduceNeg, Int.reducePow, Int.reduceEq, ↓reduceIte, Nat.reduceEqDiff, Nat.reduceAdd, Nat.reduceMul, Nat.reduceLeDiff, Nat.reduceSub, Nat.reduceLT, Int.reduceToNat, Int.reduceLT, Int.reduceLE, reduceCtorEq]
          repeat' ((first | refine FK_split (fun h_ => ?_) (fun h_ => ?_) | refine GK_split (fun h_ => ?_) (fun h_ => ?_) | refine ite_both (fun h_ => ?_) (fun h_ => ?_)) <;> (try simp only [decide_eq_true_eq, decide_eq_false_iff_not, Bool.not_true, Bool.not_false, Bool.not_eq_true', Bool.not_eq_false', Bool.not_eq_eq_eq_not, Decidable.not_not] at h_) <;> (try simp only [r4_0, r4_1, r4_2, r4_3, r4_4, r4_5, r4_6, r4_7, r4_8, r4_9, r4_10, r4_11, r4_12, r4_13, r4_14, r4_15, r4_16, r4_17, r4_18, r4_19, r4_20, c4, F4, v_awake07, h_, go_sem, Int.reduceTMod, Int.reduceTDiv, Int.reduceDiv, Int.reduceMod, Int.reduceAdd, Int.reduceSub, Int.reduceMul, Int.reduceNeg, Int.reducePow, Int.reduceEq, ↓reduceIte, Nat.reduceEqDiff, Nat.reduceAdd, Nat.reduceMul, Nat.reduceLeDiff, Nat.reduceSub, Nat.reduceLT, Int.reduceToNat, Int.reduceLT, Int.reduceLE, reduceCtorEq]))
        · obtain ⟨rfl, p1, hp, hO⟩ := hq3 hi ha
          obtain ⟨p2, hp', hO'⟩ := hp2 ha
          have hln := stroke_len h (plainL l c) c cap
          have hpl := plain_len l c
          have h16 := stroke_l16 h (plainL l c) c cap
          generalize strokeI (plainL l c) c h cap = its at *
          have hA : OPs p1 p1 p1 M3 N3 x (its.map (·.2)) := hO.keep (by omega) (fun id a b _ _ => by rw [hM3, unfrz_at, if_pos (by omega), hM2, unfrz_at, if_neg (by omega)])
          have hB : OPs p2 p2 p2 M3 N3 y (its.map (·.2)) := hO'.keep (by omega) (fun id a b _ _ => by rw [hM3, unfrz_at, if_neg (by omega)])
          have hlA := hA.len
          have hlB := hB.len
          have hll : (its.map (·.2)).length < 4294967296 := by rw [List.length_map]; omega
          have hls : ∀ l ∈ its.map (·.2), l.length < 4294967296 := fun l hl => by
            obtain ⟨z, hz, rfl⟩ := List.mem_map.1 hl
            exact h16 z hz
          generalize its.map (·.2) = ls at *
          try simp only [r4_0, r4_1, r4_2, r4_3, r4_4, r4_5, r4_6, r4_7, r4_8, r4_9, r4_10, r4_11, r4_12, r4_13, r4_14, r4_15, r4_16, r4_17, r4_18, r4_19, r4_20, c4, F4, hlA, hlB, go_sem, Int.reduceTMod, Int.reduceTDiv, Int.reduceDiv, Int.reduceMod, Int.reduceAdd, Int.reduceSub, Int.reduceMul, Int.reduceNeg, Int.reducePow, Int.reduceEq, ↓reduceIte, Nat.reduceEqDiff, Nat.reduceAdd, Nat.reduceMul, Nat.reduceLeDiff, Nat.reduceSub, Nat.reduceLT, Int.reduceToNat, Int.reduceLT, Int.reduceLE, reduceCtorEq]
          repeat' ((first | refine FK_split (fun h_ => ?_) (fun h_ => ?_) | refine GK_split (fun h_ => ?_) (fun h_ => ?_) | refine ite_both (fun h_ => ?_) (fun h_ => ?_)) <;> (try simp only [decide_eq_true_eq, decide_eq_false_iff_not, Bool.not_true, Bool.not_false, Bool.not_eq_true', Bool.not_eq_false', Bool.not_eq_eq_eq_not, Decidable.not_not] at h_) <;> (try simp only [r4_0, r4_1, r4_2, r4_3, r4_4, r4_5, r4_6, r4_7, r4_8, r4_9, r4_10, r4_11, r4_12, r4_13, r4_14, r4_15, r4_16, r4_17, r4_18, r4_19, r4_20, c4, F4, hlA, hlB, h_, go_sem, Int.reduceTMod, Int.reduceTDiv, Int.reduceDiv, Int.reduceMod, Int.reduceAdd, Int.reduceSub, Int.reduceMul, Int.reduceNeg, Int.reducePow, Int.reduceEq, ↓reduceIte, Nat.reduceEqDiff, Nat.reduceAdd, Nat.reduceMul, Nat.reduceLeDiff, Nat.reduceSub, Nat.reduceLT, Int.reduceToNat, Int.reduceLT, Int.reduceLE, reduceCtorEq]))
          refine XK_iter (inv := fun i s => s.e 94 = RI i ∧ s.e 93 = RI ls.length ∧ s.e 8 = x ∧ s.e 10 = y ∧ s.m = M3 ∧ s.n = N3) ls.length
            (fun L _ => ⟨fun i hi s hs' next => ?_, fun s hs' => ?_⟩) 0 (by omega) _ ⟨?_, ?_, ?_, ?_, rfl, rfl⟩
          · obtain ⟨e, M, N⟩ := s
            obtain ⟨q94, q93, q8, q10, qm, qn⟩ := hs'
            simp only at q94 q93 q8 q10 qm qn
            subst qm
            subst qn
            have hp : ls[i]? = some ls[i] := List.getElem?_eq_getElem hi
            obtain ⟨id, b, d, hro, hid, hb, hc, hrc⟩ := hA.at hp
            obtain ⟨id', b', d', hro', hid', hb', hc', hrc'⟩ := hB.at hp
            have hsl := hls ls[i] (List.getElem_mem hi)
            have c2 : ((i : Int) < (ls.length : Int)) = True := eq_true (by omega)
            have c3 : (0 ≤ (i : Int)) = True := eq_true (by omega)
            have c7 : IntKind.i64.wrap ((i : Int) + 1) = ((i + 1 : Nat) : Int) := wr_nat (by omega)
            have vs := v_same (.one d) (.one d') _ _ (frz M) N hrc.frz hrc'.frz hsl
            rw [decide_eq_true rfl] at vs
            rw [hro] at q8
            rw [hro'] at q10
            try simp only [r4_0, r4_1, r4_2, r4_3, r4_4, r4_5, r4_6, r4_7, r4_8, r4_9, r4_10, r4_11, r4_12, r4_13, r4_14, r4_15, r4_16, r4_17, r4_18, r4_19, r4_20, c4, F4, l4_0, q94, q93, q8, q10, lenO, c2, c3, c7, hb, hc, hb', hc', vs, Int.toNat_natCast, Nat.mul_one, Nat.zero_add, go_sem, Int.reduceTMod, Int.reduceTDiv, Int.reduceDiv, Int.reduceMod, Int.reduceAdd, Int.reduceSub, Int.reduceMul, Int.reduceNeg, Int.reducePow, Int.reduceEq, ↓reduceIte, Nat.reduceEqDiff, Nat.reduceAdd, Nat.reduceMul, Nat.reduceLeDiff, Nat.reduceSub, Nat.reduceLT, Int.reduceToNat, Int.reduceLT, Int.reduceLE, reduceCtorEq]
            repeat' ((first | refine FK_split (fun h_ => ?_) (fun h_ => ?_) | refine GK_split (fun h_ => ?_) (fun h_ => ?_) | refine ite_both (fun h_ => ?_) (fun h_ => ?_)) <;> (try simp only [decide_eq_true_eq, decide_eq_false_iff_not, Bool.not_true, Bool.not_false, Bool.not_eq_true', Bool.not_eq_false', Bool.not_eq_eq_eq_not, Decidable.not_not] at h_) <;> (try simp only [r4_0, r4_1, r4_2, r4_3, r4_4, r4_5, r4_6, r4_7, r4_8, r4_9, r4_10, r4_11, r4_12, r4_13, r4_14, r4_15, r4_16, r4_17, r4_18, r4_19, r4_20, c4, F4, l4_0, q94, q93, q8, q10, lenO, c2, c3, c7, hb, hc, hb', hc', vs, Int.toNat_natCast, Nat.mul_one, Nat.zero_add, h_, go_sem, Int.reduceTMod, Int.reduceTDiv, Int.reduceDiv, Int.reduceMod, Int.reduceAdd, Int.reduceSub, Int.reduceMul, Int.reduceNeg, Int.reducePow, Int.reduceEq, ↓reduceIte, Nat.reduceEqDiff, Nat.reduceAdd, Nat.reduceMul, Nat.reduceLeDiff, Nat.reduceSub, Nat.reduceLT, Int.reduceToNat, Int.reduceLT, Int.reduceLE, reduceCtorEq]))
            refine next _ ⟨?_, ?_, ?_, ?_, rfl, rfl⟩
            · simp only [go_sem, Int.reduceTMod, Int.reduceTDiv, Int.reduceDiv, Int.reduceMod, Int.reduceAdd, Int.reduceSub, Int.reduceMul, Int.reduceNeg, Int.reducePow, Int.reduceEq, ↓reduceIte, Nat.reduceEqDiff, Nat.reduceAdd, Nat.reduceMul, Nat.reduceLeDiff, Nat.reduceSub, Nat.reduceLT, Int.reduceToNat, Int.reduceLT, Int.reduceLE, reduceCtorEq]
            · simp only [q93, go_sem, Int.reduceTMod, Int.reduceTDiv, Int.reduceDiv, Int.reduceMod, Int.reduceAdd, Int.reduceSub, Int.reduceMul, Int.reduceNeg, Int.reducePow, Int.reduceEq, ↓reduceIte, Nat.reduceEqDiff, Nat.reduceAdd, Nat.reduceMul, Nat.reduceLeDiff, Nat.reduceSub, Nat.reduceLT, Int.reduceToNat, Int.reduceLT, Int.reduceLE, reduceCtorEq]
            · simp only [q8, hro, go_sem, Int.reduceTMod, Int.reduceTDiv, Int.reduceDiv, Int.reduceMod, Int.reduceAdd, Int.reduceSub, Int.reduceMul, Int.reduceNeg, Int.reducePow, Int.reduceEq, ↓reduceIte, Nat.reduceEqDiff, Nat.reduceAdd, Nat.reduceMul, Nat.reduceLeDiff, Nat.reduceSub, Nat.reduceLT, Int.reduceToNat, Int.reduceLT, Int.reduceLE, reduceCtorEq]
            · simp only [q10, hro', go_sem, Int.reduceTMod, Int.reduceTDiv, Int.reduceDiv, Int.reduceMod, Int.reduceAdd, Int.reduceSub, Int.reduceMul, Int.reduceNeg, Int.reducePow, Int.reduceEq, ↓reduceIte, Nat.reduceEqDiff, Nat.reduceAdd, Nat.reduceMul, Nat.reduceLeDiff, Nat.reduceSub, Nat.reduceLT, Int.reduceToNat, Int.reduceLT, Int.reduceLE, reduceCtorEq]
          · obtain ⟨e, M, N⟩ := s
            obtain ⟨q94, q93, q8, q10, qm, qn⟩ := hs'
            simp only at q94 q93 q8 q10 qm qn
            have c2 : ((ls.length : Int) < (ls.length : Int)) = False := eq_false (by omega)
            try simp only [r4_0, r4_1, r4_2, r4_3, r4_4, r4_5, r4_6, r4_7, r4_8, r4_9, r4_10, r4_11, r4_12, r4_13, r4_14, r4_15, r4_16, r4_17, r4_18, r4_19, r4_20, c4, F4, l4_0, q94, q93, c2, v_awake07, go_sem, Int.reduceTMod, Int.reduceTDiv, Int.reduceDiv, Int.reduceMod, Int.reduceAdd, Int.reduceSub, Int.reduceMul, Int.reduceNeg, Int.reducePow, Int.reduceEq, ↓reduceIte, Nat.reduceEqDiff, Nat.reduceAdd, Nat.reduceMul, Nat.reduceLeDiff, Nat.reduceSub, Nat.reduceLT, Int.reduceToNat, Int.reduceLT, Int.reduceLE, reduceCtorEq]
            repeat' ((first | refine FK_split (fun h_ => ?_) (fun h_ => ?_) | refine GK_split (fun h_ => ?_) (fun h_ => ?_) | refine ite_both (fun h_ => ?_) (fun h_ => ?_)) <;> (try simp only [decide_eq_true_eq, decide_eq_false_iff_not, Bool.not_true, Bool.not_false, Bool.not_eq_true', Bool.not_eq_false', Bool.not_eq_eq_eq_not, Decidable.not_not] at h_) <;> (try simp only [r4_0, r4_1, r4_2, r4_3, r4_4, r4_5, r4_6, r4_7, r4_8, r4_9, r4_10, r4_11, r4_12, r4_13, r4_14, r4_15, r4_16, r4_17, r4_18, r4_19, r4_20, c4, F4, l4_0, q94, q93, c2, v_awake07, h_, go_sem, Int.reduceTMod, Int.reduceTDiv, Int.reduceDiv, Int.reduceMod, Int.reduceAdd, Int.reduceSub, Int.reduceMul, Int.reduceNeg, Int.reducePow, Int.reduceEq, ↓reduceIte, Nat.reduceEqDiff, Nat.reduceAdd, Nat.reduceMul, Nat.reduceLeDiff, Nat.reduceSub, Nat.reduceLT, Int.reduceToNat, Int.reduceLT, Int.reduceLE, reduceCtorEq]))
          · simp only [go_sem, Int.reduceTMod, Int.reduceTDiv, Int.reduceDiv, Int.reduceMod, Int.reduceAdd, Int.reduceSub, Int.reduceMul, Int.reduceNeg, Int.reducePow, Int.reduceEq, ↓reduceIte, Nat.reduceEqDiff, Nat.reduceAdd, Nat.reduceMul, Nat.reduceLeDiff, Nat.reduceSub, Nat.reduceLT, Int.reduceToNat, Int.reduceLT, Int.reduceLE, reduceCtorEq]
          · simp only [go_sem, Int.reduceTMod, Int.reduceTDiv, Int.reduceDiv, Int.reduceMod, Int.reduceAdd, Int.reduceSub, Int.reduceMul, Int.reduceNeg, Int.reducePow, Int.reduceEq, ↓reduceIte, Nat.reduceEqDiff, Nat.reduceAdd, Nat.reduceMul, Nat.reduceLeDiff, Nat.reduceSub, Nat.reduceLT, Int.reduceToNat, Int.reduceLT, Int.reduceLE, reduceCtorEq]
          · simp only [go_sem, Int.reduceTMod, Int.reduceTDiv, Int.reduceDiv, Int.reduceMod, Int.reduceAdd, Int.reduceSub, Int.reduceMul, Int.reduceNeg, Int.reducePow, Int.reduceEq, ↓reduceIte, Nat.reduceEqDiff, Nat.reduceAdd, Nat.reduceMul, Nat.reduceLeDiff, Nat.reduceSub, Nat.reduceLT, Int.reduceToNat, Int.reduceLT, Int.reduceLE, reduceCtorEq]
          · simp only [go_sem, Int.reduceTMod, Int.reduceTDiv, Int.reduceDiv, Int.reduceMod, Int.reduceAdd, Int.reduceSub, Int.reduceMul, Int.reduceNeg, Int.reducePow, Int.reduceEq, ↓reduceIte, Nat.reduceEqDiff, Nat.reduceAdd, Nat.reduceMul, Nat.reduceLeDiff, Nat.reduceSub, Nat.reduceLT, Int.reduceToNat, Int.reduceLT, Int.reduceLE, reduceCtorEq]
    · have gd : decide ((1 ≤ h ∧ h ≤ 32768) ∧ 0 ≤ cap ∧ cap ≤ 2) = false := decide_eq_false g1
      rw [gd, Bool.false_and] at hq1
      obtain ⟨rfl, rfl⟩ := hq1 rfl
      by_cases a1 : h < 1
      · skip
        try simp only [r4_0, r4_1, r4_2, r4_3, r4_4, r4_5, r4_6, r4_7, r4_8, r4_9, r4_10, r4_11, r4_12, r4_13, r4_14, r4_15, r4_16, r4_17, r4_18, r4_19, r4_20, c4, F4, hb2, rd_of hb2, s2, a1, v_awake07, go_sem, Int.reduceTMod, Int.reduceTDiv, Int.reduceDiv, Int.reduceMod, Int.reduceAdd, Int.reduceSub, Int.reduceMul, Int.reduceNeg, Int.reducePow, Int.reduceEq, ↓reduceIte, Nat.reduceEqDiff, Nat.reduceAdd, Nat.reduceMul, Nat.reduceLeDiff, Nat.reduceSub, Nat.reduceLT, Int.reduceToNat, Int.reduceLT, Int.reduceLE, reduceCtorEq]
        repeat' ((first | refine FK_split (fun h_ => ?_) (fun h_ => ?_) | refine GK_split (fun h_ => ?_) (fun h_ => ?_) | refine ite_both (fun h_ => ?_) (fun h_ => ?_)) <;> (try simp only [decide_eq_true_eq, decide_eq_false_iff_not, Bool.not_true, Bool.not_false, Bool.not_eq_true', Bool.not_eq_false', Bool.not_eq_eq_eq_not, Decidable.not_not] at h_) <;> (try simp only [r4_0, r4_1, r4_2, r4_3, r4_4, r4_5, r4_6, r4_7, r4_8, r4_9, r4_10, r4_11, r4_12, r4_13, r4_14, r4_15, r4_16, r4_17, r4_18, r4_19, r4_20, c4, F4, hb2, rd_of hb2, s2, a1, v_awake07, h_, go_sem, Int.reduceTMod, Int.reduceTDiv, Int.reduceDiv, Int.reduceMod, Int.reduceAdd, Int.reduceSub, Int.reduceMul, Int.reduceNeg, Int.reducePow, Int.reduceEq, ↓reduceIte, Nat.reduceEqDiff, Nat.reduceAdd, Nat.reduceMul, Nat.reduceLeDiff, Nat.reduceSub, Nat.reduceLT, Int.reduceToNat, Int.reduceLT, Int.reduceLE, reduceCtorEq]))
      · by_cases a2 : 32768 < h
        · skip
          try simp only [r4_0, r4_1, r4_2, r4_3, r4_4, r4_5, r4_6, r4_7, r4_8, r4_9, r4_10, r4_11, r4_12, r4_13, r4_14, r4_15, r4_16, r4_17, r4_18, r4_19, r4_20, c4, F4, hb2, rd_of hb2, s2, a1, a2, v_awake07, go_sem, Int.reduceTMod, Int.reduceTDiv, Int.reduceDiv, Int.reduceMod, Int.reduceAdd, Int.reduceSub, Int.reduceMul, Int.reduceNeg, Int.reducePow, Int.reduceEq, ↓reduceIte, Nat.reduceEqDiff, Nat.reduceAdd, Nat.reduceMul, Nat.reduceLeDiff, Nat.reduceSub, Nat.reduceLT, Int.reduceToNat, Int.reduceLT, Int.reduceLE, reduceCtorEq]
          repeat' ((first | refine FK_split (fun h_ => ?_) (fun h_ => ?_) | refine GK_split (fun h_ => ?_) (fun h_ => ?_) | refine ite_both (fun h_ => ?_) (fun h_ => ?_)) <;> (try simp only [decide_eq_true_eq, decide_eq_false_iff_not, Bool.not_true, Bool.not_false, Bool.not_eq_true', Bool.not_eq_false', Bool.not_eq_eq_eq_not, Decidable.not_not] at h_) <;> (try simp only [r4_0, r4_1, r4_2, r4_3, r4_4, r4_5, r4_6, r4_7, r4_8, r4_9, r4_10, r4_11, r4_12, r4_13, r4_14, r4_15, r4_16, r4_17, r4_18, r4_19, r4_20, c4, F4, hb2, rd_of hb2, s2, a1, a2, v_awake07, h_, go_sem, Int.reduceTMod, Int.reduceTDiv, Int.reduceDiv, Int.reduceMod, Int.reduceAdd, Int.reduceSub, Int.reduceMul, Int.reduceNeg, Int.reducePow, Int.reduceEq, ↓reduceIte, Nat.reduceEqDiff, Nat.reduceAdd, Nat.reduceMul, Nat.reduceLeDiff, Nat.reduceSub, Nat.reduceLT, Int.reduceToNat, Int.reduceLT, Int.reduceLE, reduceCtorEq]))
        · by_cases a3 : cap < 0
          · skip
            try simp only [r4_0, r4_1, r4_2, r4_3, r4_4, r4_5, r4_6, r4_7, r4_8, r4_9, r4_10, r4_11, r4_12, r4_13, r4_14, r4_15, r4_16, r4_17, r4_18, r4_19, r4_20, c4, F4, hb2, rd_of hb2, s2, a1, a2, a3, v_awake07, go_sem, Int.reduceTMod, Int.reduceTDiv, Int.reduceDiv, Int.reduceMod, Int.reduceAdd, Int.reduceSub, Int.reduceMul, Int.reduceNeg, Int.reducePow, Int.reduceEq, ↓reduceIte, Nat.reduceEqDiff, Nat.reduceAdd, Nat.reduceMul, Nat.reduceLeDiff, Nat.reduceSub, Nat.reduceLT, Int.reduceToNat, Int.reduceLT, Int.reduceLE, reduceCtorEq]
            repeat' ((first | refine FK_split (fun h_ => ?_) (fun h_ => ?_) | refine GK_split (fun h_ => ?_) (fun h_ => ?_) | refine ite_both (fun h_ => ?_) (fun h_ => ?_)) <;> (try simp only [decide_eq_true_eq, decide_eq_false_iff_not, Bool.not_true, Bool.not_false, Bool.not_eq_true', Bool.not_eq_false', Bool.not_eq_eq_eq_not, Decidable.not_not] at h_) <;> (try simp only [r4_0, r4_1, r4_2, r4_3, r4_4, r4_5, r4_6, r4_7, r4_8, r4_9, r4_10, r4_11, r4_12, r4_13, r4_14, r4_15, r4_16, r4_17, r4_18, r4_19, r4_20, c4, F4, hb2, rd_of hb2, s2, a1, a2, a3, v_awake07, h_, go_sem, Int.reduceTMod, Int.reduceTDiv, Int.reduceDiv, Int.reduceMod, Int.reduceAdd, Int.reduceSub, Int.reduceMul, Int.reduceNeg, Int.reducePow, Int.reduceEq, ↓reduceIte, Nat.reduceEqDiff, Nat.reduceAdd, Nat.reduceMul, Nat.reduceLeDiff, Nat.reduceSub, Nat.reduceLT, Int.reduceToNat, Int.reduceLT, Int.reduceLE, reduceCtorEq]))
          · have a4 : 2 < cap := Int.not_le.1 (fun a4 => g1 ⟨⟨by omega, by omega⟩, by omega, a4⟩)
            try simp only [r4_0, r4_1, r4_2, r4_3, r4_4, r4_5, r4_6, r4_7, r4_8, r4_9, r4_10, r4_11, r4_12, r4_13, r4_14, r4_15, r4_16, r4_17, r4_18, r4_19, r4_20, c4, F4, hb2, rd_of hb2, s2, a1, a2, a3, a4, v_awake07, go_sem, Int.reduceTMod, Int.reduceTDiv, Int.reduceDiv, Int.reduceMod, Int.reduceAdd, Int.reduceSub, Int.reduceMul, Int.reduceNeg, Int.reducePow, Int.reduceEq, ↓reduceIte, Nat.reduceEqDiff, Nat.reduceAdd, Nat.reduceMul, Nat.reduceLeDiff, Nat.reduceSub, Nat.reduceLT, Int.reduceToNat, Int.reduceLT, Int.reduceLE, reduceCtorEq]
            repeat' ((first | refine FK_split (fun h_ => ?_) (fun h_ => ?_) | refine GK_split (fun h_ => ?_) (fun h_ => ?_) | refine ite_both (fun h_ => ?_) (fun h_ => ?_)) <;> (try simp only [decide_eq_true_eq, decide_eq_false_iff_not, Bool.not_true, Bool.not_false, Bool.not_eq_true', Bool.not_eq_false', Bool.not_eq_eq_eq_not, Decidable.not_not] at h_) <;> (try simp only [r4_0, r4_1, r4_2, r4_3, r4_4, r4_5, r4_6, r4_7, r4_8, r4_9, r4_10, r4_11, r4_12, r4_13, r4_14, r4_15, r4_16, r4_17, r4_18, r4_19, r4_20, c4, F4, hb2, rd_of hb2, s2, a1, a2, a3, a4, v_awake07, h_, go_sem, Int.reduceTMod, Int.reduceTDiv, Int.reduceDiv, Int.reduceMod, Int.reduceAdd, Int.reduceSub, Int.reduceMul, Int.reduceNeg, Int.reducePow, Int.reduceEq, ↓reduceIte, Nat.reduceEqDiff, Nat.reduceAdd, Nat.reduceMul, Nat.reduceLeDiff, Nat.reduceSub, Nat.reduceLT, Int.reduceToNat, Int.reduceLT, Int.reduceLE, reduceCtorEq]))
end Go.Proofs.YtidpeongblkcbaaDoor.Sy

/- Arguments that are structs with slices in them, opened for the evaluator. Conditions: those that each theorem names. -/
namespace Go.Proofs.YtidpeongblkcbaaDoor.Sy
open Go.RowKit Go.ChangeShapes Go.WideShapes Go.Deep
set_option linter.unusedVariables false

/-- What a cell holds that is a slice of flat elements. -/
def SlOk (w : World) (ks : List CK) (v : Value) : Prop :=
  v = .slice none 0 0 ∨ ∃ b o len cap vs, v = .slice (some ⟨b, o, none⟩) len cap ∧ b < w.heap.size ∧ len ≤ cap ∧ cap ≤ maxLen ∧ RowsOk ks cap vs ∧ ∀ (i : Nat) (x : Value), vs[i]? = some x → w.cell? ⟨b, o + i, none⟩ = some x

/-- A struct all of whose fields take one cell. -/
theorem arg_mix {P : Program} {T : TypeId} {fs : Array Field} {ts : List TypeId} (ht : P.underlying T = some (.struct fs)) (hts : P.cellTypes P.depth T = some ts) {H : Type} {enc : TypeId × Value → H} {w : World} {base base' : Nat} {held : Bool} {v : Value} {d : DataW H} {ps : List MemPlace}
    (hv : Value.okWide P w .any base' T v) (h : DataW.Trod enc P w base (fun _ => true) held T v d ps) :
    ∃ cs : List Value, v = .agg cs.toArray ∧ cs.length = P.cellsOf T ∧ ∀ (j : Nat) (f : Field) (c : Value), fs[j]? = some f → P.cellsOf f.type = 1 → (∀ u, ts[f.offset % ts.length]? = some u → u = f.type) → cs[f.offset]? = some c →
      Cell.okWide P w .any base' f.type c ∧ ∃ x fuel, DataW.trod enc P w base (fun _ => true) held fuel f.type [c] = some x := by
  simp only [Value.okWide, ht] at hv
  obtain ⟨cs, rfl, hsz, ts', h1, h2, h3⟩ := hv
  obtain rfl := Option.some.inj (hts.symm.trans h1)
  obtain ⟨fuel, hf⟩ := h
  have hf' : DataW.trod enc P w base (fun _ => true) held fuel T cs.toList = some (d, ps) := hf
  obtain ⟨xs, n, _, _, hl, hxs, hg⟩ := DataW.trod_struct ht hf'
  refine ⟨cs.toList, by simp, by simpa using hsz, fun j f c hj hc1 hu hc => ?_⟩
  obtain ⟨u, hu1, hu2⟩ := h3 f.offset c (by simpa using hc)
  have e := hu u hu1
  subst e
  refine ⟨hu2, ?_⟩
  have h4 := hg j f hj
  rw [hc1] at h4
  have h5 : (cs.toList.drop f.offset).take 1 = [c] := by
    have hlt := (List.getElem?_eq_some_iff.1 hc).1
    rw [List.drop_eq_getElem_cons hlt]
    have := (List.getElem?_eq_some_iff.1 hc).2
    simp [this]
  rw [h5] at h4
  have hjn : j < xs.length := by
    have := (Array.getElem?_eq_some_iff.1 hj).1
    omega
  rw [List.getElem?_eq_getElem hjn] at h4
  exact ⟨_, n, h4⟩

theorem mix_slice {P : Program} {T e : TypeId} {ks : List CK} {k : Nat} (ht : P.underlying T = some (.slice e)) (hk : kindsK P k e = some ks) (hc : P.cellsOf e = ks.length) (h0 : ks.length ≠ 0) {H : Type} {enc : TypeId × Value → H} {w : World} {base base' : Nat} {held : Bool} {c : Value}
    (h : Cell.okWide P w .any base' T c ∧ ∃ x fuel, DataW.trod enc P w base (fun _ => true) held fuel T [c] = some x) : SlOk w ks c := by
  obtain ⟨hv, ⟨d, ps⟩, fuel, hf⟩ := h
  have hv2 : Value.okWide P w .any base' T c := by simp only [Value.okWide, ht]; exact hv
  obtain ⟨a, len, cap, rfl⟩ := okWide_slice ht hv2
  exact arg_slice ht hk hc h0 hv2 ⟨fuel, hf⟩
theorem mix_int {P : Program} {T : TypeId} {k : IntKind} (ht : P.underlying T = some (.int k)) {H : Type} {enc : TypeId × Value → H} {w : World} {base base' : Nat} {held : Bool} {c : Value}
    (h : Cell.okWide P w .any base' T c ∧ ∃ x fuel, DataW.trod enc P w base (fun _ => true) held fuel T [c] = some x) : ∃ n, c = .int k n ∧ k.min ≤ n ∧ n ≤ k.max := by
  obtain ⟨hv, x, fuel, hf⟩ := h
  obtain ⟨n, e, _, hw⟩ := DataW.trod_int ht hf
  obtain rfl := (List.cons.inj e).1
  exact ⟨n, rfl, has_of_wf hw⟩
theorem mix_bool {P : Program} {T : TypeId} (ht : P.underlying T = some .bool) {H : Type} {enc : TypeId × Value → H} {w : World} {base base' : Nat} {held : Bool} {c : Value}
    (h : Cell.okWide P w .any base' T c ∧ ∃ x fuel, DataW.trod enc P w base (fun _ => true) held fuel T [c] = some x) : ∃ b, c = .bool b := by
  obtain ⟨hv, x, fuel, hf⟩ := h
  obtain ⟨b, e, _⟩ := DataW.trod_bool ht hf
  obtain rfl := (List.cons.inj e).1
  exact ⟨b, rfl⟩

/-- A slice cell, laid into the evaluator's memory under the number n. -/
theorem mix_lay {ρ : Loc} {n : Nat} {w : World} {m : Mem} (hm : MRel ρ n w m) (hh : Held m) {ks : List CK} {v : Value} (h : SlOk w ks v) :
    ∃ (ρ' : Loc) (n' : Nat) (m' : Mem) (c : Cell), MRel ρ' n' w m' ∧ Held m' ∧ Le ρ n w ρ' n' w ∧ CRel ρ' n' w c v ∧ (∀ id, id < n → m' id = m id) ∧ n' = n + 1 ∧
      ((c = .sc (.slice none 0 0) ∧ v = .slice none 0 0) ∨ ∃ len cap vs, c = .sl n 0 len none ks.length ∧ len ≤ cap ∧ cap ≤ maxLen ∧ RowsOk ks cap vs ∧ m' n = some ⟨vs.map .sc, false⟩) := by
  rcases h with rfl | ⟨b, o, len, cap, vs, rfl, hb, hl, hm2, hr, hc⟩
  · have hmm : MRel ρ (n + 1) w m := by
      refine ⟨fun id bl h => by have := hm.lt id bl h; omega, hm.blk, fun id bl h i c hi => ?_, hm.soft, hm.apart⟩
      obtain ⟨x, h1, h2⟩ := hm.cells id bl h i c hi
      exact ⟨x, h1, CRel.mono ⟨by omega, fun _ _ => rfl, fun _ h => h⟩ _ _ h2⟩
    exact ⟨ρ, n + 1, m, .sc (.slice none 0 0), hmm, hh, ⟨by omega, fun _ _ => rfl, fun _ h => h⟩, by simp [CRel, Value.oneCell'], fun _ _ => rfl, rfl, Or.inl ⟨rfl, rfl⟩⟩
  · have hlen : vs.length = cap * ks.length := by
      have := hr.len
      simpa using this
    have hs := addSl (ρ := ρ) (n := n) (w := w) (len := len) (sz := ks.length) hl hlen hc
    exact ⟨atL ρ n b o, n + 1, _, .sl n 0 len none ks.length, addRow hm hh hb hr hc, held_upd hh n _, atL_le, hs, fun id hid => upd_ne _ _ (by omega), rfl, Or.inr ⟨len, cap, vs, rfl, hl, hm2, hr, upd_same _ _ _⟩⟩
end Go.Proofs.YtidpeongblkcbaaDoor.Sy

/- Subpaths as_ arguments; the rows of the laws over pens. Conditions: those that each theorem names. -/
namespace Go.Proofs.YtidpeongblkcbaaDoor.Sy
open Go Go.Proofs
open Go.RowKit Go.ChangeShapes Go.WideShapes Go.Deep
set_option linter.unusedVariables false

theorem pts_of {cap : Nat} {vs : List Value} (h : RowsOk [.int .i64, .int .i64] cap vs) : ∃ l : List Pt, l.length = cap ∧ vs.map .sc = l.flatMap Pt.cs := by
  unfold RowsOk at h
  induction cap generalizing vs with
  | zero => simp only [List.replicate_zero, List.flatten_nil, CksOk] at h; subst h; exact ⟨[], rfl, rfl⟩
  | succ k ih =>
    rw [List.replicate_succ, List.flatten_cons] at h
    simp only [List.cons_append, List.nil_append, CksOk] at h
    obtain ⟨x, r, rfl, h1, y, r', rfl, h2, h3⟩ := h
    obtain ⟨l, e1, e2⟩ := ih h3
    exact ⟨⟨x, y⟩ :: l, by simp [e1], by simp [e2, Pt.cs]⟩
/-- A slice of points, laid: it is read. -/
theorem pts_rl {m : Mem} {n : Nat} {c : Cell} {v : Value} (h : (c = .sc (.slice none 0 0) ∧ v = .slice none 0 0) ∨ ∃ len cap vs, c = .sl n 0 len none [CK.int .i64, CK.int .i64].length ∧ len ≤ cap ∧ cap ≤ maxLen ∧ RowsOk [.int .i64, .int .i64] cap vs ∧ m n = some ⟨vs.map .sc, false⟩) :
    ∃ l : List Pt, RPt m (n + 1) (.one c) l := by
  rcases h with ⟨rfl, _⟩ | ⟨len, cap, vs, rfl, h1, _, h2, h3⟩
  · exact ⟨[], Or.inl ⟨rfl, rfl⟩⟩
  · obtain ⟨l, e1, e2⟩ := pts_of h2
    have hlen : (l.take len).length = len := by rw [List.length_take]; omega
    refine ⟨l.take len, Or.inr ⟨n, 0, none, by rw [hlen]; rfl, by omega, ?_⟩⟩
    rw [rd_of h3, hlen, e2]
    have e4 : (l.flatMap Pt.cs).length = cap * 2 := by rw [flatMap_len Pt.cs 2 cs2, e1]
    unfold rdB
    rw [if_pos (by show 0 + len * 2 ≤ (l.flatMap Pt.cs).length; rw [e4]; omega), List.drop_zero]
    congr 1
    have : ∀ (l : List Pt) (k : Nat), (l.flatMap Pt.cs).take (k * 2) = (l.take k).flatMap Pt.cs := by
      intro l
      induction l with
      | nil => intro k; simp
      | cons x l ih =>
        intro k
        cases k with
        | zero => simp
        | succ k =>
          rw [show (k + 1) * 2 = k * 2 + 1 + 1 by omega]
          simp [ih k]
    exact this l len
set_option maxRecDepth 100000 in
theorem open39 {H : Type} {enc : TypeId × Value → H} {w : World} {base base' : Nat} {held : Bool} {v : Value} {d : DataW H} {ps : List MemPlace} (hv : Value.okWide Tryd.prog w .any base' 39 v) (h : DataW.Trod enc Tryd.prog w base (fun _ => true) held 39 v d ps) :
    ∃ c b, v = .agg #[c, .bool b] ∧ SlOk w [.int .i64, .int .i64] c := by
  obtain ⟨cs, rfl, hl, hf⟩ := arg_mix (ts := [24, 4]) Tryd.underlying39 (by kernel_rfl) hv h
  rw [show Tryd.prog.cellsOf 39 = 2 by kernel_rfl] at hl
  match cs, hl with
  | [c, p], _ =>
    have h0 := hf 0 _ c rfl (by kernel_rfl) (fun u hu => (Option.some.inj hu).symm) rfl
    have h1 := hf 1 _ p rfl (by kernel_rfl) (fun u hu => (Option.some.inj hu).symm) rfl
    obtain ⟨b, rfl⟩ := mix_bool Tryd.underlying4 h1
    exact ⟨c, b, rfl, mix_slice (k := 8) Tryd.underlying24 (by kernel_rfl) (by kernel_rfl) (by decide) h0⟩
/-- A law over a subpath, a half width and a cap, over the laid table. -/
theorem row_pen {f : Nat} (hlaw : ∀ (c0 : Cell) (l : List Pt) (c : Bool) (h cap : Int) (m : Mem) (n : Nat), RPt m n (.one c0) l → 0 < n → m 0 = some ⟨cosT, false⟩ → Fn TA f [.agg [c0, .sc (.bool c)], RI h, RI cap] m n (fun r _ _ => r = RB true))
    (hmix : Tryd.prog.follows .mixedOrders = true) (W : World) (ht : 0 < W.heap.size ∧ ∀ j v, cosV[j]? = some v → W.cell? ⟨0, j, none⟩ = some (.int .i64 v)) (v : Value) (hv : ∃ c b, v = .agg #[c, .bool b] ∧ SlOk W [.int .i64, .int .i64] c)
    (k : Int) (hk : IntKind.i64.min ≤ k ∧ k ≤ IntKind.i64.max) (k2 : Int) (hk2 : IntKind.i64.min ≤ k2 ∧ k2 ≤ IntKind.i64.max) :
    Calls Tryd.prog f #[v, .int .i64 k, .int .i64 k2] W (fun e w' => e = .returned (.bool true) ∧ Go.RowKit.Below W.heap.size W w') := by
  obtain ⟨c, b, rfl, hs⟩ := hv
  obtain ⟨ρ, n, m, c0, hm, hh, hle, hc, hold, rfl, hk0⟩ := mix_lay (tab_mem (vals := cosV) ht.1 ht.2) tab_held hs
  obtain ⟨l, hr⟩ := pts_rl hk0
  have hg : Glob 1 ρ (1 + 1) := tab_glob.mono hle
  exact law_calls (ng := 1) (ρ := ρ) (n := 1 + 1) hmix TA_ok (hlaw c0 l b k k2 m (1 + 1) hr (by omega) (by rw [hold 0 (by omega)]; exact upd_same _ _ _)) hm hg ⟨_, _, rfl, ⟨_, rfl, _, _, rfl, hc, _, _, rfl, ⟨rfl, rfl⟩, rfl⟩, _, _, rfl, ⟨rfl, rfl⟩, _, _, rfl, ⟨rfl, rfl⟩, rfl⟩ hh
end Go.Proofs.YtidpeongblkcbaaDoor.Sy

/- The row StrokePens. Conditions: those that each theorem names. -/
namespace Go.Proofs.YtidpeongblkcbaaDoor.Sy
open Go Go.Proofs Go.RowKit
set_option linter.unusedVariables false

theorem rowL4 (hmix : Tryd.prog.follows .mixedOrders = true) (W : World) (ht : 0 < W.heap.size ∧ ∀ j v, cosV[j]? = some v → W.cell? ⟨0, j, none⟩ = some (.int .i64 v)) (v : Value) (hv : ∃ c b, v = .agg #[c, .bool b] ∧ SlOk W [.int .i64, .int .i64] c)
    (k : Int) (hk : IntKind.i64.min ≤ k ∧ k ≤ IntKind.i64.max) (k2 : Int) (hk2 : IntKind.i64.min ≤ k2 ∧ k2 ≤ IntKind.i64.max) :
    Calls Tryd.prog 4 #[v, .int .i64 k, .int .i64 k2] W (fun e w' => e = .returned (.bool true) ∧ Go.RowKit.Below W.heap.size W w') :=
  row_pen (f := 4) (fun c0 l c h cap m n hr h0 hm => law4 c0 l c h cap m n hr h0 false hm) hmix W ht v hv k hk k2 hk2
end Go.Proofs.YtidpeongblkcbaaDoor.Sy
