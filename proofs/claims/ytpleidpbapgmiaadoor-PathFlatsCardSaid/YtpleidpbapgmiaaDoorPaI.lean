/- A matrix on a path walked. Conditions: those that each theorem names. -/
import Derived.Test.YtpleidpbapgmiaaDoorPaH
namespace Go.Proofs.YtpleidpbapgmiaaDoor.Sy
open Go Go.Proofs
set_option linter.unusedSimpArgs false
set_option linter.unusedVariables false
set_option maxRecDepth 20000
attribute [local go_sem] XK_seq XK_block XK_skip XK_exit XK_ret XK_cond XK_reg XK_dreg XK_ureg KN_seq KN_blk KN_lp KN_chk KN_chku KN_top KN_fin KX_seq KX_lp KX_blk KX_chk KX_top KR_seq KR_blk KR_lp KR_chk KR_top KR_fin FK_true FK_false RK_nil RK_mv RK_pick RK_alloc RK_box RK_build RK_bslice RK_load1 RK_loadA RK_store RK_nilchk RK_bin RK_beq RK_eqv RK_eqnil RK_un RK_conv RK_mkfn RK_mkslice RK_slS RK_slA RK_fadr RK_fld RK_iadrA RK_iadrS RK_idxA RK_ext RK_lenC RK_cap RK_app RK_appz RK_cpy RK_mn RK_mx RK_len RK_carry RK_clr carryR um0 um1 ThenK_some RK_guard GK_tt GK_ff GK_tf GK_ft GK_none QK_some RK_callQ RK_callZ RK_callT TK_some VK_clo RK_callV
  evalOp evO evOs upd_at unfrz_at putE_some putE_none boolOf_b boolOf_tup Option.map_some evRes pack_one pack_two pack_three pack_none List.getD_cons_zero List.getD_cons_succ getD_nil
  Option.some.injEq exists_eq_left' Reg.cs? fillC setL List.set_cons_zero List.set_cons_succ List.length_cons List.length_nil rd_upd rd_updn rdB wr List.drop_zero List.drop_succ_cons List.take_succ_cons List.take_zero List.getElem?_cons_zero List.getElem?_cons_succ
  ix Int.toNat_zero lenO_sl lenO_nil nadd na_eq na_eq' na_lt na_ee na_ll na_ne na_ne' na_tt
attribute [local go_sem] Reg.flat_one Reg.flat_agg Reg.flat_tup flats_nil flats_cons Cell.flat_sc Cell.flat_ptr List.all_cons List.all_nil disOk safeOk safeR decide_eq_true_eq decide_eq_false_iff_not
  List.map_cons List.map_nil List.cons_append List.nil_append List.append_nil evalOp.capsOf Bool.false_bne Bool.bne_false Bool.true_bne Bool.bne_true bne_self_eq_false beq_self_eq_true Bool.not_not Bool.false_and Bool.and_false Bool.true_or Bool.or_true beq_iff_eq eqCells
  Bool.true_beq Bool.false_beq Bool.not_eq_true' Bool.not_eq_eq_eq_not Bool.not_eq_false' and_false false_and frz_at idOf noId Option.isSome_some Bool.and_eq_true
attribute [local go_sem] wr_eq bV_add bV_sub bV_mul bV_eql bV_neq bV_lss bV_leq bV_gtr bV_geq bV_quo bV_rem bV_shr bV_shl uV_not uV_neg wrapU bits_and bits_or bits_xor IntKind.bits Nat.min_eq_left Nat.min_eq_right Nat.min_self
attribute [local go_sem] bne_iff_ne Int.cast_ofNat_Int Nat.zero_add Nat.add_zero and_self and_true true_and ne_eq not_false_eq_true not_true_eq_false decide_true decide_false Bool.false_eq_true Bool.not_true Bool.not_false Bool.true_and Bool.and_true Bool.or_false Bool.false_or Bool.and_self

def mapJ (f : Pt → Pt) (j : Nat) (s : Sg) : Sg := ⟨s.k, if 0 < j then f s.a else s.a, if 1 < j then f s.b else s.b, if 2 < j then f s.c else s.c⟩
def mapS (f : Pt → Pt) (s : Sg) : Sg := mapJ f (need s.k).toNat s
def ptJ (s : Sg) : Nat → Pt
  | 0 => s.a
  | 1 => s.b
  | _ => s.c
theorem mapJ_0 (f : Pt → Pt) (s : Sg) : mapJ f 0 s = s := by cases s; rfl
theorem mem_pts {s : Sg} {j : Nat} (h : j < (need s.k).toNat) : ptJ s j ∈ s.pts.take (need s.k).toNat := by
  have hb := need_bd s.k
  have h3 : (need s.k).toNat = 0 ∨ (need s.k).toNat = 1 ∨ (need s.k).toNat = 2 ∨ (need s.k).toNat = 3 := by omega
  have hj : j = 0 ∨ j = 1 ∨ j = 2 := by omega
  rcases h3 with h3 | h3 | h3 | h3 <;> rcases hj with rfl | rfl | rfl <;> rw [h3] at h ⊢ <;> first | omega | simp [Sg.pts, ptJ]
theorem all_pts {s : Sg} {q : Pt → Bool} (h : ∀ j, j < (need s.k).toNat → q (ptJ s j) = true) : (s.pts.take (need s.k).toNat).all q = true := by
  have hb := need_bd s.k
  have h3 : (need s.k).toNat = 0 ∨ (need s.k).toNat = 1 ∨ (need s.k).toNat = 2 ∨ (need s.k).toNat = 3 := by omega
  have g0 := h 0
  have g1 := h 1
  have g2 := h 2
  rcases h3 with h3 | h3 | h3 | h3 <;> rw [h3] at g0 g1 g2 ⊢ <;> simp [Sg.pts, ptJ] at g0 g1 g2 ⊢ <;> simp_all
theorem ptsN_mem {l : List Sg} {i j : Nat} {s : Sg} (hs : l[i]? = some s) (h : j < (need s.k).toNat) : ptJ s j ∈ ptsN l := by
  unfold ptsN
  rw [List.mem_flatMap]
  exact ⟨s, List.mem_of_getElem? hs, mem_pts h⟩
/-- Rows while a segment is under way. -/
def rowJ (f : Pt → Pt) (l : List Sg) (i j : Nat) (s : Sg) : List Sg := (l.take i).map (mapS f) ++ mapJ f j s :: l.drop (i + 1)
theorem rowJ_len {f : Pt → Pt} {l : List Sg} {i j : Nat} {s : Sg} (hi : i < l.length) : (rowJ f l i j s).length = l.length := by
  simp only [rowJ, List.length_append, List.length_map, List.length_take, List.length_cons, List.length_drop]
  omega
theorem rowJ_at {f : Pt → Pt} {l : List Sg} {i j : Nat} {s : Sg} (hi : i < l.length) : (rowJ f l i j s)[i]? = some (mapJ f j s) := by
  unfold rowJ
  rw [List.getElem?_append_right (by simp; omega)]
  simp only [List.length_map, List.length_take, show i - min i l.length = 0 by omega, List.getElem?_cons_zero]
theorem rowJ_set {f : Pt → Pt} {l : List Sg} {i j : Nat} {s s' : Sg} (hi : i < l.length) : (rowJ f l i j s).set i s' = (l.take i).map (mapS f) ++ s' :: l.drop (i + 1) := by
  unfold rowJ
  rw [List.set_append_right _ _ (by simp; omega)]
  simp only [List.length_map, List.length_take, show i - min i l.length = 0 by omega, List.set_cons_zero]
theorem rowJ_0 {f : Pt → Pt} {l : List Sg} {i : Nat} {s : Sg} (h : l[i]? = some s) : rowJ f l i 0 s = (l.take i).map (mapS f) ++ l.drop i := by
  have hi : i < l.length := (List.getElem?_eq_some_iff.1 h).1
  unfold rowJ
  rw [mapJ_0, List.drop_eq_getElem_cons hi, (List.getElem?_eq_some_iff.1 h).2]
theorem rowJ_end {f : Pt → Pt} {l : List Sg} {i : Nat} {s : Sg} (h : l[i]? = some s) : rowJ f l i (need s.k).toNat s = (l.take (i + 1)).map (mapS f) ++ l.drop (i + 1) := by
  unfold rowJ
  rw [take_snoc h]
  simp [mapS]
theorem rd_sub {m : Mem} {id off k a q : Nat} {cs : List Cell} (h : rd m id off k = some cs) (hq : a + q ≤ k) : rd m id (off + a) q = some ((cs.drop a).take q) := by
  unfold rd at h ⊢
  split at h
  case h_2 => cases h
  rename_i b hb
  split at h
  case isFalse => cases h
  rename_i hle
  cases h
  rw [if_pos (by omega), List.drop_take, List.take_take, List.drop_drop]
  congr 2
  omega
theorem mapJ_pt {f : Pt → Pt} {j : Nat} {s : Sg} (hj : j < 3) : ((mapJ f j s).cs.drop (1 + j * 2)).take 2 = [I (ptJ s j).x, I (ptJ s j).y] := by
  have h : j = 0 ∨ j = 1 ∨ j = 2 := by omega
  rcases h with rfl | rfl | rfl <;> rfl
/-- One more point of a segment is put. -/
theorem put_pt {f : Pt → Pt} {l : List Sg} {i j : Nat} {s : Sg} (hi : i < l.length) (hj : j < 3) :
    setL ((rowJ f l i j s).flatMap Sg.cs) (i * 7 + 1 + j * 2) [I (f (ptJ s j)).x, I (f (ptJ s j)).y] = (rowJ f l i (j + 1) s).flatMap Sg.cs := by
  have hat := rowJ_at (f := f) (j := j) (s := s) hi
  simp only [setL]
  have h : j = 0 ∨ j = 1 ∨ j = 2 := by omega
  have fin : ∀ (s1 s2 : Sg) (t : Nat) (x y : Cell), t + 1 < 7 → s1.cs = (mapJ f j s).cs.set t x → s2.cs = s1.cs.set (t + 1) y → s2 = mapJ f (j + 1) s → i * 7 + 1 + j * 2 = i * 7 + t →
      (((rowJ f l i j s).flatMap Sg.cs).set (i * 7 + 1 + j * 2) x).set (i * 7 + 1 + j * 2 + 1) y = (rowJ f l i (j + 1) s).flatMap Sg.cs := by
    intro s1 s2 t x y ht e1 e2 e3 e4
    rw [e4, flat_set cs7 hat (by omega) e1]
    have hat2 : ((rowJ f l i j s).set i s1)[i]? = some s1 := by
      rw [List.getElem?_set_self (by rw [rowJ_len hi]; exact hi)]
    rw [show i * 7 + t + 1 = i * 7 + (t + 1) by omega, flat_set cs7 hat2 (by omega) e2, List.set_set, rowJ_set hi, e3]
    rfl
  rcases h with rfl | rfl | rfl
  · exact fin ⟨s.k, ⟨(f s.a).x, s.a.y⟩, s.b, s.c⟩ ⟨s.k, f s.a, s.b, s.c⟩ 1 _ _ (by omega) rfl rfl rfl (by omega)
  · exact fin ⟨s.k, f s.a, ⟨(f s.b).x, s.b.y⟩, s.c⟩ ⟨s.k, f s.a, f s.b, s.c⟩ 3 _ _ (by omega) rfl rfl rfl (by omega)
  · exact fin ⟨s.k, f s.a, f s.b, ⟨(f s.c).x, s.c.y⟩⟩ ⟨s.k, f s.a, f s.b, f s.c⟩ 5 _ _ (by omega) rfl rfl rfl (by omega)
theorem CL.rl {base : Nat} {m : Mem} {n : Nat} {r : Reg} {l : List Sg} (h : CL base m n r l) : RSg m n r l := by
  rcases h with h | ⟨id, cap, rfl, h1, h2, h3, h4⟩
  · exact Or.inl h
  · refine Or.inr ⟨id, 0, cap, rfl, h2, ?_⟩
    have hl := flatMap_len Sg.cs 7 cs7 l
    rw [rd_of h3]
    unfold rdB
    rw [if_pos (by rw [hl]; omega), List.drop_zero, ← hl, List.take_length]
theorem CL.sidge {base : Nat} {m : Mem} {n : Nat} {r : Reg} {l : List Sg} (h : CL base m n r l) {j : Nat} (hj : sid r = some j) : base ≤ j := by
  rcases h with ⟨rfl, _⟩ | ⟨id, cap, rfl, h1, _⟩
  · cases hj
  · simp only [sid, Option.some.injEq] at hj
    omega
/-- What path.Apply hands back. -/
def PAQ (l : List Sg) (M0 : Mx) (n : Nat) (r' : Reg) (m' : Mem) (n' : Nat) : Prop :=
  ∃ x k, r' = .tup [x, RI k] ∧ n ≤ n' ∧
      ((chkP l ≠ 0 ∧ x = rnil ∧ k = chkP l) ∨ (chkP l = 0 ∧ (rightM M0 = false ∨ (ptsN l).all (apOk M0) = false) ∧ x = rnil ∧ k = 10) ∨
        (chkP l = 0 ∧ rightM M0 = true ∧ (ptsN l).all (apOk M0) = true ∧ k = 0 ∧ RSg m' n' x (l.map (mapS (apP M0))) ∧ ∀ j, sid x = some j → n ≤ j))
set_option maxHeartbeats 4000000 in
theorem w_PApply {r : Reg} {l : List Sg} {M0 : Mx} {m : Mem} {n : Nat} {o : Bool} (hr : RSg m n r l) (h0 : m 0 = some ⟨needC, o⟩) (hn : 0 < n) (hl : l.length < 1000000) :
    Fn TA 23 [r, .agg M0.cs] m n (PAQ l M0 n) := by
  refine Fn_ofK (fn := F23) rfl (by simp [F23]) ?_
  have hlen := hr.len
  have hr0 : RSg (upd m n (some ⟨M0.cs, true⟩)) (n + 1) r l := hr.keep (by omega) (fun id hid => upd_ne _ _ (by omega))
  have hz : (upd m n (some ⟨M0.cs, true⟩)) 0 = some ⟨needC, o⟩ := by rw [upd_ne _ _ (by omega)]; exact h0
  have vC := v_Check (o := false) hr0.frz (by rw [frz_at, hz]; rfl) (by omega)
  have vR := v_mRight M0
  by_cases hk : chkP l = 0
  case neg =>
    try simp only [r23_0, r23_1, r23_2, r23_3, r23_4, r23_5, r23_6, r23_7, r23_8, r23_9, r23_10, r23_11, r23_12, r23_13, r23_14, r23_15, r23_16, r23_17, r23_18, r23_19, r23_20, c23, F23, vC, hk, go_sem, Int.reduceTMod, Int.reduceTDiv, Int.reduceDiv, Int.reduceMod, Int.reduceAdd, Int.reduceSub, Int.reduceMul, Int.reduceNeg, Int.reducePow, Int.reduceEq, ↓reduceIte, Nat.reduceEqDiff, Nat.reduceAdd, Nat.reduceMul, Nat.reduceLeDiff, Nat.reduceSub, Nat.reduceLT, Int.reduceToNat, Int.reduceLT, Int.reduceLE, reduceCtorEq]
    repeat' ((first | refine FK_split (fun h_ => ?_) (fun h_ => ?_) | refine GK_split (fun h_ => ?_) (fun h_ => ?_) | refine ite_both (fun h_ => ?_) (fun h_ => ?_)) <;> (try simp only [decide_eq_true_eq, decide_eq_false_iff_not, Bool.not_true, Bool.not_false, Bool.not_eq_true', Bool.not_eq_false', Bool.not_eq_eq_eq_not, Decidable.not_not] at h_) <;> (try simp only [r23_0, r23_1, r23_2, r23_3, r23_4, r23_5, r23_6, r23_7, r23_8, r23_9, r23_10, r23_11, r23_12, r23_13, r23_14, r23_15, r23_16, r23_17, r23_18, r23_19, r23_20, c23, F23, vC, hk, h_, go_sem, Int.reduceTMod, Int.reduceTDiv, Int.reduceDiv, Int.reduceMod, Int.reduceAdd, Int.reduceSub, Int.reduceMul, Int.reduceNeg, Int.reducePow, Int.reduceEq, ↓reduceIte, Nat.reduceEqDiff, Nat.reduceAdd, Nat.reduceMul, Nat.reduceLeDiff, Nat.reduceSub, Nat.reduceLT, Int.reduceToNat, Int.reduceLT, Int.reduceLE, reduceCtorEq]))
    exact ⟨_, _, rfl, by omega, Or.inl ⟨hk, rfl, rfl⟩⟩
  cases hR : rightM M0
  · rw [hR] at vR
    try simp only [r23_0, r23_1, r23_2, r23_3, r23_4, r23_5, r23_6, r23_7, r23_8, r23_9, r23_10, r23_11, r23_12, r23_13, r23_14, r23_15, r23_16, r23_17, r23_18, r23_19, r23_20, c23, F23, vC, hk, vR, go_sem, Int.reduceTMod, Int.reduceTDiv, Int.reduceDiv, Int.reduceMod, Int.reduceAdd, Int.reduceSub, Int.reduceMul, Int.reduceNeg, Int.reducePow, Int.reduceEq, ↓reduceIte, Nat.reduceEqDiff, Nat.reduceAdd, Nat.reduceMul, Nat.reduceLeDiff, Nat.reduceSub, Nat.reduceLT, Int.reduceToNat, Int.reduceLT, Int.reduceLE, reduceCtorEq]
    repeat' ((first | refine FK_split (fun h_ => ?_) (fun h_ => ?_) | refine GK_split (fun h_ => ?_) (fun h_ => ?_) | refine ite_both (fun h_ => ?_) (fun h_ => ?_)) <;> (try simp only [decide_eq_true_eq, decide_eq_false_iff_not, Bool.not_true, Bool.not_false, Bool.not_eq_true', Bool.not_eq_false', Bool.not_eq_eq_eq_not, Decidable.not_not] at h_) <;> (try simp only [r23_0, r23_1, r23_2, r23_3, r23_4, r23_5, r23_6, r23_7, r23_8, r23_9, r23_10, r23_11, r23_12, r23_13, r23_14, r23_15, r23_16, r23_17, r23_18, r23_19, r23_20, c23, F23, vC, hk, vR, h_, go_sem, Int.reduceTMod, Int.reduceTDiv, Int.reduceDiv, Int.reduceMod, Int.reduceAdd, Int.reduceSub, Int.reduceMul, Int.reduceNeg, Int.reducePow, Int.reduceEq, ↓reduceIte, Nat.reduceEqDiff, Nat.reduceAdd, Nat.reduceMul, Nat.reduceLeDiff, Nat.reduceSub, Nat.reduceLT, Int.reduceToNat, Int.reduceLT, Int.reduceLE, reduceCtorEq]))
    exact ⟨_, _, rfl, by omega, Or.inr (Or.inl ⟨hk, Or.inl hR, rfl, rfl⟩)⟩
  rw [hR] at vR
  try simp only [r23_0, r23_1, r23_2, r23_3, r23_4, r23_5, r23_6, r23_7, r23_8, r23_9, r23_10, r23_11, r23_12, r23_13, r23_14, r23_15, r23_16, r23_17, r23_18, r23_19, r23_20, c23, F23, vC, hk, vR, go_sem, Int.reduceTMod, Int.reduceTDiv, Int.reduceDiv, Int.reduceMod, Int.reduceAdd, Int.reduceSub, Int.reduceMul, Int.reduceNeg, Int.reducePow, Int.reduceEq, ↓reduceIte, Nat.reduceEqDiff, Nat.reduceAdd, Nat.reduceMul, Nat.reduceLeDiff, Nat.reduceSub, Nat.reduceLT, Int.reduceToNat, Int.reduceLT, Int.reduceLE, reduceCtorEq]
  repeat' ((first | refine FK_split (fun h_ => ?_) (fun h_ => ?_) | refine GK_split (fun h_ => ?_) (fun h_ => ?_) | refine ite_both (fun h_ => ?_) (fun h_ => ?_)) <;> (try simp only [decide_eq_true_eq, decide_eq_false_iff_not, Bool.not_true, Bool.not_false, Bool.not_eq_true', Bool.not_eq_false', Bool.not_eq_eq_eq_not, Decidable.not_not] at h_) <;> (try simp only [r23_0, r23_1, r23_2, r23_3, r23_4, r23_5, r23_6, r23_7, r23_8, r23_9, r23_10, r23_11, r23_12, r23_13, r23_14, r23_15, r23_16, r23_17, r23_18, r23_19, r23_20, c23, F23, vC, hk, vR, h_, go_sem, Int.reduceTMod, Int.reduceTDiv, Int.reduceDiv, Int.reduceMod, Int.reduceAdd, Int.reduceSub, Int.reduceMul, Int.reduceNeg, Int.reducePow, Int.reduceEq, ↓reduceIte, Nat.reduceEqDiff, Nat.reduceAdd, Nat.reduceMul, Nat.reduceLeDiff, Nat.reduceSub, Nat.reduceLT, Int.reduceToNat, Int.reduceLT, Int.reduceLE, reduceCtorEq]))
  refine RK_callk ?_
  refine (w_SClone hr0.frz (by omega)).mono ?_
  rintro r1 m1 n1 ⟨hcl, hn1⟩
  obtain ⟨M1, hM1⟩ : ∃ M1, M1 = unfrz (upd m n (some ⟨M0.cs, true⟩)) (n + 1) m1 := ⟨_, rfl⟩
  rw [← hM1, show max (n + 1) n1 = n1 by omega]
  have hf1 : ∀ id, id < n + 1 → M1 id = upd m n (some ⟨M0.cs, true⟩) id := fun id hid => by rw [hM1, unfrz_at, if_pos hid]
  have hg1 : ∀ id, n + 1 ≤ id → M1 id = m1 id := fun id hid => by rw [hM1, unfrz_at, if_neg (by omega)]
  have hz1 : M1 0 = some ⟨needC, o⟩ := by rw [hf1 0 (by omega)]; exact hz
  have hb1 : M1 n = some ⟨M0.cs, true⟩ := by rw [hf1 n (by omega), upd_same]
  have hfm : ∀ id, id < n → M1 id = m id := fun id hid => by rw [hf1 id (by omega), upd_ne _ _ (by omega)]
  have hlen1 : lenO r1 = some (l.length : Int) := by rcases hcl with ⟨rfl, rfl⟩ | ⟨id, cap, rfl, _⟩ <;> rfl
  try simp only [r23_0, r23_1, r23_2, r23_3, r23_4, r23_5, r23_6, r23_7, r23_8, r23_9, r23_10, r23_11, r23_12, r23_13, r23_14, r23_15, r23_16, r23_17, r23_18, r23_19, r23_20, c23, F23, hlen1, go_sem, Int.reduceTMod, Int.reduceTDiv, Int.reduceDiv, Int.reduceMod, Int.reduceAdd, Int.reduceSub, Int.reduceMul, Int.reduceNeg, Int.reducePow, Int.reduceEq, ↓reduceIte, Nat.reduceEqDiff, Nat.reduceAdd, Nat.reduceMul, Nat.reduceLeDiff, Nat.reduceSub, Nat.reduceLT, Int.reduceToNat, Int.reduceLT, Int.reduceLE, reduceCtorEq]
  repeat' ((first | refine FK_split (fun h_ => ?_) (fun h_ => ?_) | refine GK_split (fun h_ => ?_) (fun h_ => ?_) | refine ite_both (fun h_ => ?_) (fun h_ => ?_)) <;> (try simp only [decide_eq_true_eq, decide_eq_false_iff_not, Bool.not_true, Bool.not_false, Bool.not_eq_true', Bool.not_eq_false', Bool.not_eq_eq_eq_not, Decidable.not_not] at h_) <;> (try simp only [r23_0, r23_1, r23_2, r23_3, r23_4, r23_5, r23_6, r23_7, r23_8, r23_9, r23_10, r23_11, r23_12, r23_13, r23_14, r23_15, r23_16, r23_17, r23_18, r23_19, r23_20, c23, F23, hlen1, h_, go_sem, Int.reduceTMod, Int.reduceTDiv, Int.reduceDiv, Int.reduceMod, Int.reduceAdd, Int.reduceSub, Int.reduceMul, Int.reduceNeg, Int.reducePow, Int.reduceEq, ↓reduceIte, Nat.reduceEqDiff, Nat.reduceAdd, Nat.reduceMul, Nat.reduceLeDiff, Nat.reduceSub, Nat.reduceLT, Int.reduceToNat, Int.reduceLT, Int.reduceLE, reduceCtorEq]))
  refine XK_iter (inv := fun i s => s.e 25 = RI i ∧ s.e 24 = RI l.length ∧ s.e 7 = r1 ∧ s.e 3 = .one (.ptr n 0) ∧ n1 ≤ s.n ∧ (∀ id, id < n + 1 → s.m id = M1 id) ∧ (ptsN (l.take i)).all (apOk M0) = true ∧ CL (n + 1) s.m s.n r1 ((l.take i).map (mapS (apP M0)) ++ l.drop i)) l.length
    (fun L _ => ⟨fun i hi s hs next => ?_, fun s hs => ?_⟩) 0 (by omega) _ ?_
  · obtain ⟨e, M, N⟩ := s
    obtain ⟨q25, q24, q7, q3, qn, qm, qa, qc⟩ := hs
    simp only at q25 q24 q7 q3 qn qm qa qc
    have hp : l[i]? = some l[i] := List.getElem?_eq_getElem hi
    have hsn := ptsN_snoc hp
    have hr0' := rowJ_0 (f := apP M0) hp
    have hre := rowJ_end (f := apP M0) hp
    have hmem : ∀ j, j < (need l[i].k).toNat → ptJ l[i] j ∈ ptsN l := fun j hj => ptsN_mem hp hj
    generalize l[i] = sg at *
    rw [← hr0'] at qc
    have hrl : (rowJ (apP M0) l i 0 sg).length = l.length := rowJ_len hi
    have hne : rowJ (apP M0) l i 0 sg ≠ [] := fun h => by rw [h] at hrl; simp at hrl; omega
    obtain ⟨cb, cap, rfl, hcb1, hcb2, hcb3, hcap⟩ := qc.resolve_left (fun h => hne h.2)
    have hcap := hcap.resolve_right hne
    subst hcap
    have c2 : ((i : Int) < (l.length : Int)) = True := eq_true (by omega)
    have c2' : ((i : Int) < ((rowJ (apP M0) l i 0 sg).length : Int)) = True := eq_true (by rw [hrl]; omega)
    have c3 : (0 ≤ (i : Int)) = True := eq_true (by omega)
    have c7 : IntKind.i64.wrap ((i : Int) + 1) = ((i + 1 : Nat) : Int) := wr_nat (by omega)
    have hnb := need_bd sg.k
    have hCl : ∀ j, ((rowJ (apP M0) l i j sg).flatMap Sg.cs).length = l.length * 7 := fun j => by rw [flatMap_len Sg.cs 7 cs7, rowJ_len hi]
    have hrd0 : ∀ (M' : Mem) (j : Nat), M' cb = some ⟨(rowJ (apP M0) l i j sg).flatMap Sg.cs, true⟩ → rd M' cb (i * 7) 7 = some (mapJ (apP M0) j sg).cs := fun M' j h => by
      have hrow : RSg M' (cb + 1) (.one (.sl cb 0 (rowJ (apP M0) l i j sg).length none 7)) (rowJ (apP M0) l i j sg) := Or.inr ⟨cb, 0, none, rfl, by omega, by
        rw [rd_of h]
        unfold rdB
        rw [if_pos (by simp only [hCl, rowJ_len hi]; omega), List.drop_zero, rowJ_len hi]
        simp only
        rw [List.take_of_length_le (by rw [hCl]; exact Nat.le_refl _)]⟩
      obtain ⟨id', off', cap', e1, _, h2⟩ := hrow.at cs7 (rowJ_at (j := j) hi)
      simp only [Reg.one.injEq, Cell.sl.injEq, true_and, and_true] at e1
      obtain ⟨rfl, rfl, _⟩ := e1
      rw [Nat.zero_add] at h2
      exact h2
    have hk0 : ((rowJ (apP M0) l i 0 sg).flatMap Sg.cs)[i * 7]? = some (I sg.k) := by
      obtain ⟨b, h1, h2⟩ := rd_cell (hrd0 M 0 hcb3) (a := 0) (c := I sg.k) rfl
      rw [hcb3] at h1
      cases h1
      simpa using h2
    try simp only [r23_8, r23_9, r23_10, l23_1, q25, q24, q7, c2, c2', c3, Int.toNat_natCast, go_sem, Int.reduceTMod, Int.reduceTDiv, Int.reduceDiv, Int.reduceMod, Int.reduceAdd, Int.reduceSub, Int.reduceMul, Int.reduceNeg, Int.reducePow, Int.reduceEq, ↓reduceIte, Nat.reduceEqDiff, Nat.reduceAdd, Nat.reduceMul, Nat.reduceLeDiff, Nat.reduceSub, Nat.reduceLT, Int.reduceToNat, Int.reduceLT, Int.reduceLE, reduceCtorEq]
    repeat' ((first | refine FK_split (fun h_ => ?_) (fun h_ => ?_) | refine GK_split (fun h_ => ?_) (fun h_ => ?_) | refine ite_both (fun h_ => ?_) (fun h_ => ?_)) <;> (try simp only [decide_eq_true_eq, decide_eq_false_iff_not, Bool.not_true, Bool.not_false, Bool.not_eq_true', Bool.not_eq_false', Bool.not_eq_eq_eq_not, Decidable.not_not] at h_) <;> (try simp only [r23_8, r23_9, r23_10, l23_1, q25, q24, q7, c2, c2', c3, Int.toNat_natCast, h_, go_sem, Int.reduceTMod, Int.reduceTDiv, Int.reduceDiv, Int.reduceMod, Int.reduceAdd, Int.reduceSub, Int.reduceMul, Int.reduceNeg, Int.reducePow, Int.reduceEq, ↓reduceIte, Nat.reduceEqDiff, Nat.reduceAdd, Nat.reduceMul, Nat.reduceLeDiff, Nat.reduceSub, Nat.reduceLT, Int.reduceToNat, Int.reduceLT, Int.reduceLE, reduceCtorEq]))
    refine RK_pts (o := o) (b := ⟨(rowJ (apP M0) l i 0 sg).flatMap Sg.cs, true⟩) (k := sg.k) rfl (by rw [qm 0 (by omega)]; exact hz1) hcb3 hk0 (by simp only [hCl]; omega) ?_
    intro M2 hM2
    try simp only [r23_10, r23_11, go_sem, Int.reduceTMod, Int.reduceTDiv, Int.reduceDiv, Int.reduceMod, Int.reduceAdd, Int.reduceSub, Int.reduceMul, Int.reduceNeg, Int.reducePow, Int.reduceEq, ↓reduceIte, Nat.reduceEqDiff, Nat.reduceAdd, Nat.reduceMul, Nat.reduceLeDiff, Nat.reduceSub, Nat.reduceLT, Int.reduceToNat, Int.reduceLT, Int.reduceLE, reduceCtorEq]
    repeat' ((first | refine FK_split (fun h_ => ?_) (fun h_ => ?_) | refine GK_split (fun h_ => ?_) (fun h_ => ?_) | refine ite_both (fun h_ => ?_) (fun h_ => ?_)) <;> (try simp only [decide_eq_true_eq, decide_eq_false_iff_not, Bool.not_true, Bool.not_false, Bool.not_eq_true', Bool.not_eq_false', Bool.not_eq_eq_eq_not, Decidable.not_not] at h_) <;> (try simp only [r23_10, r23_11, h_, go_sem, Int.reduceTMod, Int.reduceTDiv, Int.reduceDiv, Int.reduceMod, Int.reduceAdd, Int.reduceSub, Int.reduceMul, Int.reduceNeg, Int.reducePow, Int.reduceEq, ↓reduceIte, Nat.reduceEqDiff, Nat.reduceAdd, Nat.reduceMul, Nat.reduceLeDiff, Nat.reduceSub, Nat.reduceLT, Int.reduceToNat, Int.reduceLT, Int.reduceLE, reduceCtorEq]))
    refine XK_iter (inv := fun j s => s.e 34 = RI j ∧ s.e 33 = RI (((need sg.k).toNat : Nat) : Int) ∧ s.e 9 = .one (.sl cb (i * 7 + 1) (need sg.k).toNat (some 3) 2) ∧ s.e 25 = RI i ∧ s.e 24 = RI l.length ∧ s.e 7 = .one (.sl cb 0 (rowJ (apP M0) l i 0 sg).length none 7) ∧ s.e 3 = .one (.ptr n 0) ∧ n1 ≤ s.n ∧ cb < s.n ∧ (∀ id, id < n + 1 → s.m id = M1 id) ∧
      s.m cb = some ⟨(rowJ (apP M0) l i j sg).flatMap Sg.cs, true⟩ ∧ ∀ j', j' < j → apOk M0 (ptJ sg j') = true) (need sg.k).toNat
      (fun L2 _ => ⟨fun j hj s hs next2 => ?_, fun s hs => ?_⟩) 0 (by omega) _ ?_
    · obtain ⟨e3, M3, N3⟩ := s
      obtain ⟨t34, t33, t9, t25, t24, t7, t3, tn, tcb, tm, tb, tok⟩ := hs
      simp only at t34 t33 t9 t25 t24 t7 t3 tn tcb tm tb
      have d1 : ((j : Int) < (((need sg.k).toNat : Nat) : Int)) = True := eq_true (by omega)
      have d2 : (0 ≤ (j : Int)) = True := eq_true (by omega)
      have d3 : IntKind.i64.wrap ((j : Int) + 1) = ((j + 1 : Nat) : Int) := wr_nat (by omega)
      have hbox : M3 n = some ⟨M0.cs, true⟩ := by rw [tm n (by omega)]; exact hb1
      have hpt := rd_sub (a := 1 + j * 2) (q := 2) (hrd0 M3 j tb) (by omega)
      rw [mapJ_pt (by omega), show i * 7 + (1 + j * 2) = i * 7 + 1 + j * 2 by omega] at hpt
      have hput := put_pt (f := apP M0) (s := sg) hi (show j < 3 by omega)
      have hcl3 := hCl j
      generalize hpp : ptJ sg j = pp at *
      cases hok : apOk M0 pp
      · have e1 : apE M0 pp = 10 := by simp [apE, hok]
        have e2 : (ptsN l).all (apOk M0) = false := by
          rw [List.all_eq_false]
          exact ⟨pp, by rw [← hpp]; exact hmem j hj, by rw [hok]; decide⟩
        try simp only [r23_0, r23_1, r23_2, r23_3, r23_4, r23_5, r23_6, r23_7, r23_8, r23_9, r23_10, r23_11, r23_12, r23_13, r23_14, r23_15, r23_16, r23_17, r23_18, r23_19, r23_20, c23, F23, l23_0, t34, t33, t9, t3, d1, d2, hbox, rd_of hbox, hpt, v_mApply, e1, Int.toNat_natCast, go_sem, Int.reduceTMod, Int.reduceTDiv, Int.reduceDiv, Int.reduceMod, Int.reduceAdd, Int.reduceSub, Int.reduceMul, Int.reduceNeg, Int.reducePow, Int.reduceEq, ↓reduceIte, Nat.reduceEqDiff, Nat.reduceAdd, Nat.reduceMul, Nat.reduceLeDiff, Nat.reduceSub, Nat.reduceLT, Int.reduceToNat, Int.reduceLT, Int.reduceLE, reduceCtorEq]
        repeat' ((first | refine FK_split (fun h_ => ?_) (fun h_ => ?_) | refine GK_split (fun h_ => ?_) (fun h_ => ?_) | refine ite_both (fun h_ => ?_) (fun h_ => ?_)) <;> (try simp only [decide_eq_true_eq, decide_eq_false_iff_not, Bool.not_true, Bool.not_false, Bool.not_eq_true', Bool.not_eq_false', Bool.not_eq_eq_eq_not, Decidable.not_not] at h_) <;> (try simp only [r23_0, r23_1, r23_2, r23_3, r23_4, r23_5, r23_6, r23_7, r23_8, r23_9, r23_10, r23_11, r23_12, r23_13, r23_14, r23_15, r23_16, r23_17, r23_18, r23_19, r23_20, c23, F23, l23_0, t34, t33, t9, t3, d1, d2, hbox, rd_of hbox, hpt, v_mApply, e1, Int.toNat_natCast, h_, go_sem, Int.reduceTMod, Int.reduceTDiv, Int.reduceDiv, Int.reduceMod, Int.reduceAdd, Int.reduceSub, Int.reduceMul, Int.reduceNeg, Int.reducePow, Int.reduceEq, ↓reduceIte, Nat.reduceEqDiff, Nat.reduceAdd, Nat.reduceMul, Nat.reduceLeDiff, Nat.reduceSub, Nat.reduceLT, Int.reduceToNat, Int.reduceLT, Int.reduceLE, reduceCtorEq]))
        exact ⟨_, _, rfl, by omega, Or.inr (Or.inl ⟨hk, Or.inr e2, rfl, rfl⟩)⟩
      · have e1 : apE M0 pp = 0 := by simp [apE, hok]
        generalize hC : (rowJ (apP M0) l i j sg).flatMap Sg.cs = C at *
        have hle : (i * 7 + 1 + j * 2 + 2 ≤ C.length) = True := eq_true (by rw [hcl3]; omega)
        have hcN : (cb = N3) = False := eq_false (by omega)
        try simp only [r23_0, r23_1, r23_2, r23_3, r23_4, r23_5, r23_6, r23_7, r23_8, r23_9, r23_10, r23_11, r23_12, r23_13, r23_14, r23_15, r23_16, r23_17, r23_18, r23_19, r23_20, c23, F23, l23_0, t34, t33, t9, t3, d1, d2, d3, hbox, rd_of hbox, hpt, v_mApply, e1, hcN, tb, hle, Int.toNat_natCast, go_sem, Int.reduceTMod, Int.reduceTDiv, Int.reduceDiv, Int.reduceMod, Int.reduceAdd, Int.reduceSub, Int.reduceMul, Int.reduceNeg, Int.reducePow, Int.reduceEq, ↓reduceIte, Nat.reduceEqDiff, Nat.reduceAdd, Nat.reduceMul, Nat.reduceLeDiff, Nat.reduceSub, Nat.reduceLT, Int.reduceToNat, Int.reduceLT, Int.reduceLE, reduceCtorEq]
        repeat' ((first | refine FK_split (fun h_ => ?_) (fun h_ => ?_) | refine GK_split (fun h_ => ?_) (fun h_ => ?_) | refine ite_both (fun h_ => ?_) (fun h_ => ?_)) <;> (try simp only [decide_eq_true_eq, decide_eq_false_iff_not, Bool.not_true, Bool.not_false, Bool.not_eq_true', Bool.not_eq_false', Bool.not_eq_eq_eq_not, Decidable.not_not] at h_) <;> (try simp only [r23_0, r23_1, r23_2, r23_3, r23_4, r23_5, r23_6, r23_7, r23_8, r23_9, r23_10, r23_11, r23_12, r23_13, r23_14, r23_15, r23_16, r23_17, r23_18, r23_19, r23_20, c23, F23, l23_0, t34, t33, t9, t3, d1, d2, d3, hbox, rd_of hbox, hpt, v_mApply, e1, hcN, tb, hle, Int.toNat_natCast, h_, go_sem, Int.reduceTMod, Int.reduceTDiv, Int.reduceDiv, Int.reduceMod, Int.reduceAdd, Int.reduceSub, Int.reduceMul, Int.reduceNeg, Int.reducePow, Int.reduceEq, ↓reduceIte, Nat.reduceEqDiff, Nat.reduceAdd, Nat.reduceMul, Nat.reduceLeDiff, Nat.reduceSub, Nat.reduceLT, Int.reduceToNat, Int.reduceLT, Int.reduceLE, reduceCtorEq]))
        refine next2 _ ⟨?_, ?_, ?_, ?_, ?_, ?_, ?_, ?_, ?_, ?_, ?_, ?_⟩
        · simp only [go_sem, Int.reduceTMod, Int.reduceTDiv, Int.reduceDiv, Int.reduceMod, Int.reduceAdd, Int.reduceSub, Int.reduceMul, Int.reduceNeg, Int.reducePow, Int.reduceEq, ↓reduceIte, Nat.reduceEqDiff, Nat.reduceAdd, Nat.reduceMul, Nat.reduceLeDiff, Nat.reduceSub, Nat.reduceLT, Int.reduceToNat, Int.reduceLT, Int.reduceLE, reduceCtorEq]
        · simp only [t33, go_sem, Int.reduceTMod, Int.reduceTDiv, Int.reduceDiv, Int.reduceMod, Int.reduceAdd, Int.reduceSub, Int.reduceMul, Int.reduceNeg, Int.reducePow, Int.reduceEq, ↓reduceIte, Nat.reduceEqDiff, Nat.reduceAdd, Nat.reduceMul, Nat.reduceLeDiff, Nat.reduceSub, Nat.reduceLT, Int.reduceToNat, Int.reduceLT, Int.reduceLE, reduceCtorEq]
        · simp only [t9, go_sem, Int.reduceTMod, Int.reduceTDiv, Int.reduceDiv, Int.reduceMod, Int.reduceAdd, Int.reduceSub, Int.reduceMul, Int.reduceNeg, Int.reducePow, Int.reduceEq, ↓reduceIte, Nat.reduceEqDiff, Nat.reduceAdd, Nat.reduceMul, Nat.reduceLeDiff, Nat.reduceSub, Nat.reduceLT, Int.reduceToNat, Int.reduceLT, Int.reduceLE, reduceCtorEq]
        · simp only [t25, go_sem, Int.reduceTMod, Int.reduceTDiv, Int.reduceDiv, Int.reduceMod, Int.reduceAdd, Int.reduceSub, Int.reduceMul, Int.reduceNeg, Int.reducePow, Int.reduceEq, ↓reduceIte, Nat.reduceEqDiff, Nat.reduceAdd, Nat.reduceMul, Nat.reduceLeDiff, Nat.reduceSub, Nat.reduceLT, Int.reduceToNat, Int.reduceLT, Int.reduceLE, reduceCtorEq]
        · simp only [t24, go_sem, Int.reduceTMod, Int.reduceTDiv, Int.reduceDiv, Int.reduceMod, Int.reduceAdd, Int.reduceSub, Int.reduceMul, Int.reduceNeg, Int.reducePow, Int.reduceEq, ↓reduceIte, Nat.reduceEqDiff, Nat.reduceAdd, Nat.reduceMul, Nat.reduceLeDiff, Nat.reduceSub, Nat.reduceLT, Int.reduceToNat, Int.reduceLT, Int.reduceLE, reduceCtorEq]
        · simp only [t7, go_sem, Int.reduceTMod, Int.reduceTDiv, Int.reduceDiv, Int.reduceMod, Int.reduceAdd, Int.reduceSub, Int.reduceMul, Int.reduceNeg, Int.reducePow, Int.reduceEq, ↓reduceIte, Nat.reduceEqDiff, Nat.reduceAdd, Nat.reduceMul, Nat.reduceLeDiff, Nat.reduceSub, Nat.reduceLT, Int.reduceToNat, Int.reduceLT, Int.reduceLE, reduceCtorEq]
        · simp only [t3, go_sem, Int.reduceTMod, Int.reduceTDiv, Int.reduceDiv, Int.reduceMod, Int.reduceAdd, Int.reduceSub, Int.reduceMul, Int.reduceNeg, Int.reducePow, Int.reduceEq, ↓reduceIte, Nat.reduceEqDiff, Nat.reduceAdd, Nat.reduceMul, Nat.reduceLeDiff, Nat.reduceSub, Nat.reduceLT, Int.reduceToNat, Int.reduceLT, Int.reduceLE, reduceCtorEq]
        · simp only; omega
        · simp only; omega
        · intro id hid
          have z1 : (id = cb) = False := eq_false (by omega)
          have z2 : (id = N3) = False := eq_false (by omega)
          simp only [z1, z2, if_false, go_sem, Int.reduceTMod, Int.reduceTDiv, Int.reduceDiv, Int.reduceMod, Int.reduceAdd, Int.reduceSub, Int.reduceMul, Int.reduceNeg, Int.reducePow, Int.reduceEq, ↓reduceIte, Nat.reduceEqDiff, Nat.reduceAdd, Nat.reduceMul, Nat.reduceLeDiff, Nat.reduceSub, Nat.reduceLT, Int.reduceToNat, Int.reduceLT, Int.reduceLE, reduceCtorEq]
          exact tm id hid
        · simp only [go_sem, Int.reduceTMod, Int.reduceTDiv, Int.reduceDiv, Int.reduceMod, Int.reduceAdd, Int.reduceSub, Int.reduceMul, Int.reduceNeg, Int.reducePow, Int.reduceEq, ↓reduceIte, Nat.reduceEqDiff, Nat.reduceAdd, Nat.reduceMul, Nat.reduceLeDiff, Nat.reduceSub, Nat.reduceLT, Int.reduceToNat, Int.reduceLT, Int.reduceLE, reduceCtorEq]
          rw [← hput]
          rfl
        · intro j' hj'
          rcases Nat.lt_or_ge j' j with h | h
          · exact tok j' h
          · have : j' = j := by omega
            rw [this, hpp]
            exact hok
    · obtain ⟨e3, M3, N3⟩ := s
      obtain ⟨t34, t33, t9, t25, t24, t7, t3, tn, tcb, tm, tb, tok⟩ := hs
      simp only at t34 t33 t9 t25 t24 t7 t3 tn tcb tm tb
      have d1 : ((((need sg.k).toNat : Nat) : Int) < (((need sg.k).toNat : Nat) : Int)) = False := eq_false (by omega)
      try simp only [r23_0, r23_1, r23_2, r23_3, r23_4, r23_5, r23_6, r23_7, r23_8, r23_9, r23_10, r23_11, r23_12, r23_13, r23_14, r23_15, r23_16, r23_17, r23_18, r23_19, r23_20, c23, F23, l23_0, t34, t33, d1, t25, c7, go_sem, Int.reduceTMod, Int.reduceTDiv, Int.reduceDiv, Int.reduceMod, Int.reduceAdd, Int.reduceSub, Int.reduceMul, Int.reduceNeg, Int.reducePow, Int.reduceEq, ↓reduceIte, Nat.reduceEqDiff, Nat.reduceAdd, Nat.reduceMul, Nat.reduceLeDiff, Nat.reduceSub, Nat.reduceLT, Int.reduceToNat, Int.reduceLT, Int.reduceLE, reduceCtorEq]
      repeat' ((first | refine FK_split (fun h_ => ?_) (fun h_ => ?_) | refine GK_split (fun h_ => ?_) (fun h_ => ?_) | refine ite_both (fun h_ => ?_) (fun h_ => ?_)) <;> (try simp only [decide_eq_true_eq, decide_eq_false_iff_not, Bool.not_true, Bool.not_false, Bool.not_eq_true', Bool.not_eq_false', Bool.not_eq_eq_eq_not, Decidable.not_not] at h_) <;> (try simp only [r23_0, r23_1, r23_2, r23_3, r23_4, r23_5, r23_6, r23_7, r23_8, r23_9, r23_10, r23_11, r23_12, r23_13, r23_14, r23_15, r23_16, r23_17, r23_18, r23_19, r23_20, c23, F23, l23_0, t34, t33, d1, t25, c7, h_, go_sem, Int.reduceTMod, Int.reduceTDiv, Int.reduceDiv, Int.reduceMod, Int.reduceAdd, Int.reduceSub, Int.reduceMul, Int.reduceNeg, Int.reducePow, Int.reduceEq, ↓reduceIte, Nat.reduceEqDiff, Nat.reduceAdd, Nat.reduceMul, Nat.reduceLeDiff, Nat.reduceSub, Nat.reduceLT, Int.reduceToNat, Int.reduceLT, Int.reduceLE, reduceCtorEq]))
      rw [hre] at tb
      refine next _ ⟨?_, ?_, ?_, ?_, ?_, ?_, ?_, ?_⟩
      · simp only [go_sem, Int.reduceTMod, Int.reduceTDiv, Int.reduceDiv, Int.reduceMod, Int.reduceAdd, Int.reduceSub, Int.reduceMul, Int.reduceNeg, Int.reducePow, Int.reduceEq, ↓reduceIte, Nat.reduceEqDiff, Nat.reduceAdd, Nat.reduceMul, Nat.reduceLeDiff, Nat.reduceSub, Nat.reduceLT, Int.reduceToNat, Int.reduceLT, Int.reduceLE, reduceCtorEq]
      · simp only [t24, go_sem, Int.reduceTMod, Int.reduceTDiv, Int.reduceDiv, Int.reduceMod, Int.reduceAdd, Int.reduceSub, Int.reduceMul, Int.reduceNeg, Int.reducePow, Int.reduceEq, ↓reduceIte, Nat.reduceEqDiff, Nat.reduceAdd, Nat.reduceMul, Nat.reduceLeDiff, Nat.reduceSub, Nat.reduceLT, Int.reduceToNat, Int.reduceLT, Int.reduceLE, reduceCtorEq]
      · simp only [t7, go_sem, Int.reduceTMod, Int.reduceTDiv, Int.reduceDiv, Int.reduceMod, Int.reduceAdd, Int.reduceSub, Int.reduceMul, Int.reduceNeg, Int.reducePow, Int.reduceEq, ↓reduceIte, Nat.reduceEqDiff, Nat.reduceAdd, Nat.reduceMul, Nat.reduceLeDiff, Nat.reduceSub, Nat.reduceLT, Int.reduceToNat, Int.reduceLT, Int.reduceLE, reduceCtorEq]
      · simp only [t3, go_sem, Int.reduceTMod, Int.reduceTDiv, Int.reduceDiv, Int.reduceMod, Int.reduceAdd, Int.reduceSub, Int.reduceMul, Int.reduceNeg, Int.reducePow, Int.reduceEq, ↓reduceIte, Nat.reduceEqDiff, Nat.reduceAdd, Nat.reduceMul, Nat.reduceLeDiff, Nat.reduceSub, Nat.reduceLT, Int.reduceToNat, Int.reduceLT, Int.reduceLE, reduceCtorEq]
      · exact tn
      · exact tm
      · rw [hsn, List.all_append, qa, all_pts tok]
        rfl
      · refine Or.inr ⟨cb, none, ?_, hcb1, tcb, tb, Or.inl rfl⟩
        rw [hrl]
        simp only [List.length_append, List.length_map, List.length_take, List.length_drop]
        congr 3
        omega
    · refine ⟨?_, ?_, ?_, ?_, ?_, ?_, ?_, ?_, ?_, ?_, ?_, ?_⟩
      · simp only [go_sem, Int.reduceTMod, Int.reduceTDiv, Int.reduceDiv, Int.reduceMod, Int.reduceAdd, Int.reduceSub, Int.reduceMul, Int.reduceNeg, Int.reducePow, Int.reduceEq, ↓reduceIte, Nat.reduceEqDiff, Nat.reduceAdd, Nat.reduceMul, Nat.reduceLeDiff, Nat.reduceSub, Nat.reduceLT, Int.reduceToNat, Int.reduceLT, Int.reduceLE, reduceCtorEq]
      · simp only [lenO, go_sem, Int.reduceTMod, Int.reduceTDiv, Int.reduceDiv, Int.reduceMod, Int.reduceAdd, Int.reduceSub, Int.reduceMul, Int.reduceNeg, Int.reducePow, Int.reduceEq, ↓reduceIte, Nat.reduceEqDiff, Nat.reduceAdd, Nat.reduceMul, Nat.reduceLeDiff, Nat.reduceSub, Nat.reduceLT, Int.reduceToNat, Int.reduceLT, Int.reduceLE, reduceCtorEq]
      · simp only [go_sem, Int.reduceTMod, Int.reduceTDiv, Int.reduceDiv, Int.reduceMod, Int.reduceAdd, Int.reduceSub, Int.reduceMul, Int.reduceNeg, Int.reducePow, Int.reduceEq, ↓reduceIte, Nat.reduceEqDiff, Nat.reduceAdd, Nat.reduceMul, Nat.reduceLeDiff, Nat.reduceSub, Nat.reduceLT, Int.reduceToNat, Int.reduceLT, Int.reduceLE, reduceCtorEq]
      · simp only [q25, go_sem, Int.reduceTMod, Int.reduceTDiv, Int.reduceDiv, Int.reduceMod, Int.reduceAdd, Int.reduceSub, Int.reduceMul, Int.reduceNeg, Int.reducePow, Int.reduceEq, ↓reduceIte, Nat.reduceEqDiff, Nat.reduceAdd, Nat.reduceMul, Nat.reduceLeDiff, Nat.reduceSub, Nat.reduceLT, Int.reduceToNat, Int.reduceLT, Int.reduceLE, reduceCtorEq]
      · simp only [q24, go_sem, Int.reduceTMod, Int.reduceTDiv, Int.reduceDiv, Int.reduceMod, Int.reduceAdd, Int.reduceSub, Int.reduceMul, Int.reduceNeg, Int.reducePow, Int.reduceEq, ↓reduceIte, Nat.reduceEqDiff, Nat.reduceAdd, Nat.reduceMul, Nat.reduceLeDiff, Nat.reduceSub, Nat.reduceLT, Int.reduceToNat, Int.reduceLT, Int.reduceLE, reduceCtorEq]
      · simp only [q7, go_sem, Int.reduceTMod, Int.reduceTDiv, Int.reduceDiv, Int.reduceMod, Int.reduceAdd, Int.reduceSub, Int.reduceMul, Int.reduceNeg, Int.reducePow, Int.reduceEq, ↓reduceIte, Nat.reduceEqDiff, Nat.reduceAdd, Nat.reduceMul, Nat.reduceLeDiff, Nat.reduceSub, Nat.reduceLT, Int.reduceToNat, Int.reduceLT, Int.reduceLE, reduceCtorEq]
      · simp only [q3, go_sem, Int.reduceTMod, Int.reduceTDiv, Int.reduceDiv, Int.reduceMod, Int.reduceAdd, Int.reduceSub, Int.reduceMul, Int.reduceNeg, Int.reducePow, Int.reduceEq, ↓reduceIte, Nat.reduceEqDiff, Nat.reduceAdd, Nat.reduceMul, Nat.reduceLeDiff, Nat.reduceSub, Nat.reduceLT, Int.reduceToNat, Int.reduceLT, Int.reduceLE, reduceCtorEq]
      · exact qn
      · exact hcb2
      · intro id hid
        simp only
        rw [hM2 id (by omega)]
        exact qm id hid
      · simp only
        rw [hM2 cb hcb2]
        exact hcb3
      · intro j' hj'
        omega
  · obtain ⟨e, M, N⟩ := s
    obtain ⟨q25, q24, q7, q3, qn, qm, qa, qc⟩ := hs
    simp only at q25 q24 q7 q3 qn qm qa qc
    have c2 : ((l.length : Int) < (l.length : Int)) = False := eq_false (by omega)
    rw [List.take_length] at qa qc
    rw [List.drop_length, List.append_nil] at qc
    have hq : PAQ l M0 n (.tup [r1, RI 0]) M N := ⟨_, _, rfl, by omega, Or.inr (Or.inr ⟨hk, hR, qa, rfl, qc.rl, fun j hj => by have := qc.sidge hj; omega⟩)⟩
    try simp only [r23_0, r23_1, r23_2, r23_3, r23_4, r23_5, r23_6, r23_7, r23_8, r23_9, r23_10, r23_11, r23_12, r23_13, r23_14, r23_15, r23_16, r23_17, r23_18, r23_19, r23_20, c23, F23, l23_1, q25, q24, q7, c2, go_sem, Int.reduceTMod, Int.reduceTDiv, Int.reduceDiv, Int.reduceMod, Int.reduceAdd, Int.reduceSub, Int.reduceMul, Int.reduceNeg, Int.reducePow, Int.reduceEq, ↓reduceIte, Nat.reduceEqDiff, Nat.reduceAdd, Nat.reduceMul, Nat.reduceLeDiff, Nat.reduceSub, Nat.reduceLT, Int.reduceToNat, Int.reduceLT, Int.reduceLE, reduceCtorEq]
    repeat' ((first | refine FK_split (fun h_ => ?_) (fun h_ => ?_) | refine GK_split (fun h_ => ?_) (fun h_ => ?_) | refine ite_both (fun h_ => ?_) (fun h_ => ?_)) <;> (try simp only [decide_eq_true_eq, decide_eq_false_iff_not, Bool.not_true, Bool.not_false, Bool.not_eq_true', Bool.not_eq_false', Bool.not_eq_eq_eq_not, Decidable.not_not] at h_) <;> (try simp only [r23_0, r23_1, r23_2, r23_3, r23_4, r23_5, r23_6, r23_7, r23_8, r23_9, r23_10, r23_11, r23_12, r23_13, r23_14, r23_15, r23_16, r23_17, r23_18, r23_19, r23_20, c23, F23, l23_1, q25, q24, q7, c2, h_, go_sem, Int.reduceTMod, Int.reduceTDiv, Int.reduceDiv, Int.reduceMod, Int.reduceAdd, Int.reduceSub, Int.reduceMul, Int.reduceNeg, Int.reducePow, Int.reduceEq, ↓reduceIte, Nat.reduceEqDiff, Nat.reduceAdd, Nat.reduceMul, Nat.reduceLeDiff, Nat.reduceSub, Nat.reduceLT, Int.reduceToNat, Int.reduceLT, Int.reduceLE, reduceCtorEq]))
    exact hq
  · refine ⟨?_, ?_, ?_, ?_, ?_, ?_, ?_, ?_⟩
    · simp only [go_sem, Int.reduceTMod, Int.reduceTDiv, Int.reduceDiv, Int.reduceMod, Int.reduceAdd, Int.reduceSub, Int.reduceMul, Int.reduceNeg, Int.reducePow, Int.reduceEq, ↓reduceIte, Nat.reduceEqDiff, Nat.reduceAdd, Nat.reduceMul, Nat.reduceLeDiff, Nat.reduceSub, Nat.reduceLT, Int.reduceToNat, Int.reduceLT, Int.reduceLE, reduceCtorEq]
    · simp only [hlen1, go_sem, Int.reduceTMod, Int.reduceTDiv, Int.reduceDiv, Int.reduceMod, Int.reduceAdd, Int.reduceSub, Int.reduceMul, Int.reduceNeg, Int.reducePow, Int.reduceEq, ↓reduceIte, Nat.reduceEqDiff, Nat.reduceAdd, Nat.reduceMul, Nat.reduceLeDiff, Nat.reduceSub, Nat.reduceLT, Int.reduceToNat, Int.reduceLT, Int.reduceLE, reduceCtorEq]
    · simp only [go_sem, Int.reduceTMod, Int.reduceTDiv, Int.reduceDiv, Int.reduceMod, Int.reduceAdd, Int.reduceSub, Int.reduceMul, Int.reduceNeg, Int.reducePow, Int.reduceEq, ↓reduceIte, Nat.reduceEqDiff, Nat.reduceAdd, Nat.reduceMul, Nat.reduceLeDiff, Nat.reduceSub, Nat.reduceLT, Int.reduceToNat, Int.reduceLT, Int.reduceLE, reduceCtorEq]
    · simp only [go_sem, Int.reduceTMod, Int.reduceTDiv, Int.reduceDiv, Int.reduceMod, Int.reduceAdd, Int.reduceSub, Int.reduceMul, Int.reduceNeg, Int.reducePow, Int.reduceEq, ↓reduceIte, Nat.reduceEqDiff, Nat.reduceAdd, Nat.reduceMul, Nat.reduceLeDiff, Nat.reduceSub, Nat.reduceLT, Int.reduceToNat, Int.reduceLT, Int.reduceLE, reduceCtorEq]
    · exact Nat.le_refl _
    · exact fun _ _ => rfl
    · rfl
    · simp only [List.take_zero, List.map_nil, List.nil_append, List.drop_zero, go_sem, Int.reduceTMod, Int.reduceTDiv, Int.reduceDiv, Int.reduceMod, Int.reduceAdd, Int.reduceSub, Int.reduceMul, Int.reduceNeg, Int.reducePow, Int.reduceEq, ↓reduceIte, Nat.reduceEqDiff, Nat.reduceAdd, Nat.reduceMul, Nat.reduceLeDiff, Nat.reduceSub, Nat.reduceLT, Int.reduceToNat, Int.reduceLT, Int.reduceLE, reduceCtorEq]
      rcases hcl with h | ⟨id, cap, h1, h2, h3, h4, h5⟩
      · exact Or.inl h
      · exact Or.inr ⟨id, cap, h1, h2, h3, by rw [hg1 id h2]; exact h4, h5⟩
end Go.Proofs.YtpleidpbapgmiaaDoor.Sy
