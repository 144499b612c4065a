/- A point that is put elsewhere; is what is told the path. Conditions: those that each theorem names. -/
import Derived.Test.YtpleidpbapgmiaaDoorPaM
namespace Go.Proofs.YtpleidpbapgmiaaDoor.Sy
open Go Go.Proofs
set_option linter.unusedSimpArgs false
set_option linter.unusedVariables false
set_option maxRecDepth 20000
attribute [local go_sem] XK_seq XK_block XK_skip XK_exit XK_ret XK_cond XK_reg XK_dreg XK_ureg KN_seq KN_blk KN_lp KN_chk KN_chku KN_top KN_fin KX_seq KX_lp KX_blk KX_chk KX_top KR_seq KR_blk KR_lp KR_chk KR_top KR_fin FK_true FK_false RK_nil RK_mv RK_pick RK_alloc RK_box RK_build RK_bslice RK_load1 RK_loadA RK_store RK_nilchk RK_bin RK_beq RK_eqv RK_eqnil RK_un RK_conv RK_mkfn RK_mkslice RK_slS RK_slA RK_fadr RK_fld RK_iadrA RK_iadrS RK_idxA RK_ext RK_lenC RK_cap RK_app RK_appz RK_cpy RK_mn RK_mx RK_len RK_carry RK_clr carryR um0 um1 ThenK_some RK_guard GK_tt GK_ff GK_tf GK_ft GK_none QK_some RK_callQ RK_callZ RK_callT TK_some VK_clo RK_callV
  evalOp evO evOs upd_at unfrz_at putE_some putE_none boolOf_b boolOf_tup Option.map_some evRes pack_one pack_two pack_three pack_none List.getD_cons_zero List.getD_cons_succ getD_nil
  Option.some.injEq exists_eq_left' Reg.cs? fillC setL List.set_cons_zero List.set_cons_succ List.length_cons List.length_nil rd_upd rd_updn rdB wr List.drop_zero List.drop_succ_cons List.take_succ_cons List.take_zero List.getElem?_cons_zero List.getElem?_cons_succ
  ix Int.toNat_zero lenO_sl lenO_nil nadd na_eq na_eq' na_lt na_ee na_ll na_ne na_ne' na_tt
attribute [local go_sem] Reg.flat_one Reg.flat_agg Reg.flat_tup flats_nil flats_cons Cell.flat_sc Cell.flat_ptr List.all_cons List.all_nil disOk safeOk safeR decide_eq_true_eq decide_eq_false_iff_not
  List.map_cons List.map_nil List.cons_append List.nil_append List.append_nil evalOp.capsOf Bool.false_bne Bool.bne_false Bool.true_bne Bool.bne_true bne_self_eq_false beq_self_eq_true Bool.not_not Bool.false_and Bool.and_false Bool.true_or Bool.or_true beq_iff_eq eqCells
  Bool.true_beq Bool.false_beq Bool.not_eq_true' Bool.not_eq_eq_eq_not Bool.not_eq_false' and_false false_and frz_at idOf noId Option.isSome_some Bool.and_eq_true
attribute [local go_sem] wr_eq bV_add bV_sub bV_mul bV_eql bV_neq bV_lss bV_leq bV_gtr bV_geq bV_quo bV_rem bV_shr bV_shl uV_not uV_neg wrapU bits_and bits_or bits_xor IntKind.bits Nat.min_eq_left Nat.min_eq_right Nat.min_self
attribute [local go_sem] bne_iff_ne Int.cast_ofNat_Int Nat.zero_add Nat.add_zero and_self and_true true_and ne_eq not_false_eq_true not_true_eq_false decide_true decide_false Bool.false_eq_true Bool.not_true Bool.not_false Bool.true_and Bool.and_true Bool.or_false Bool.false_or Bool.and_self

def putP (s : Sg) (p : Pt) : Nat → Sg
  | 0 => ⟨s.k, p, s.b, s.c⟩
  | 1 => ⟨s.k, s.a, p, s.c⟩
  | _ => ⟨s.k, s.a, s.b, p⟩
abbrev zS : Sg := ⟨0, ⟨0, 0⟩, ⟨0, 0⟩, ⟨0, 0⟩⟩
def pL (l : List Sg) (i k : Int) (p : Pt) : List Sg := l.set i.toNat (putP (l.getD i.toNat zS) p k.toNat)
def pEr (l : List Sg) (i k : Int) (p : Pt) : Int := if atE l i = 0 then (if k < 0 ∨ need (l.getD i.toNat zS).k ≤ k then 30 else chkP (pL l i k p)) else atE l i
theorem putP_row {l : List Sg} {i j : Nat} {s : Sg} (h : l[i]? = some s) (hj : j < 3) (p : Pt) : setL (l.flatMap Sg.cs) (i * 7 + 1 + j * 2) [I p.x, I p.y] = (l.set i (putP s p j)).flatMap Sg.cs := by
  have hi : i < l.length := (List.getElem?_eq_some_iff.1 h).1
  simp only [setL]
  have h3 : j = 0 ∨ j = 1 ∨ j = 2 := by omega
  have fin : ∀ (s1 s2 : Sg) (t : Nat) (x y : Cell), t + 1 < 7 → s1.cs = s.cs.set t x → s2.cs = s1.cs.set (t + 1) y → s2 = putP s p j → i * 7 + 1 + j * 2 = i * 7 + t →
      ((l.flatMap Sg.cs).set (i * 7 + 1 + j * 2) x).set (i * 7 + 1 + j * 2 + 1) y = (l.set i (putP s p j)).flatMap Sg.cs := by
    intro s1 s2 t x y ht e1 e2 e3 e4
    rw [e4, flat_set cs7 h (by omega) e1]
    have hat2 : (l.set i s1)[i]? = some s1 := by rw [List.getElem?_set_self hi]
    rw [show i * 7 + t + 1 = i * 7 + (t + 1) by omega, flat_set cs7 hat2 (by omega) e2, List.set_set, e3]
  rcases h3 with rfl | rfl | rfl
  · exact fin ⟨s.k, ⟨p.x, s.a.y⟩, s.b, s.c⟩ ⟨s.k, p, s.b, s.c⟩ 1 _ _ (by omega) rfl rfl rfl (by omega)
  · exact fin ⟨s.k, s.a, ⟨p.x, s.b.y⟩, s.c⟩ ⟨s.k, s.a, p, s.c⟩ 3 _ _ (by omega) rfl rfl rfl (by omega)
  · exact fin ⟨s.k, s.a, s.b, ⟨p.x, s.c.y⟩⟩ ⟨s.k, s.a, s.b, p⟩ 5 _ _ (by omega) rfl rfl rfl (by omega)
theorem at_in {l : List Sg} {i : Int} (hk : atE l i = 0) : chkP l = 0 ∧ 0 ≤ i ∧ i < l.length := by
  unfold atE at hk
  split at hk
  · split at hk
    · cases hk
    · exact ⟨by assumption, by omega⟩
  · rename_i h; exact absurd hk h
set_option maxHeartbeats 2000000 in
theorem w_Put {r : Reg} {l : List Sg} {m : Mem} {n : Nat} {o : Bool} (i k : Int) (p : Pt) (hr : RSg m n r l) (h0 : m 0 = some ⟨needC, o⟩) (hn : 0 < n) (hl : l.length < 1000000) :
    Fn TA 29 [r, RI i, RI k, .agg [I p.x, I p.y]] m n (EdQ (pEr l i k p) (pL l i k p) n) := by
  refine Fn_ofK (fn := F29) rfl (by simp [F29]) ?_
  have hlen := hr.len
  have hr0 : RSg (upd m n (some ⟨p.cs, true⟩)) (n + 1) r l := hr.keep (by omega) (fun id hid => upd_ne _ _ (by omega))
  have hz : (upd m n (some ⟨p.cs, true⟩)) 0 = some ⟨needC, o⟩ := by rw [upd_ne _ _ (by omega)]; exact h0
  have vA := v_at (o := false) i hr0.frz (by rw [frz_at, hz]; rfl) (by omega)
  by_cases hk : atE l i = 0
  case neg =>
    have e : pEr l i k p = atE l i := if_neg hk
    try simp only [r29_0, r29_1, r29_2, r29_3, r29_4, r29_5, r29_6, r29_7, r29_8, c29, F29, vA, hk, go_sem, Int.reduceTMod, Int.reduceTDiv, Int.reduceDiv, Int.reduceMod, Int.reduceAdd, Int.reduceSub, Int.reduceMul, Int.reduceNeg, Int.reducePow, Int.reduceEq, ↓reduceIte, Nat.reduceEqDiff, Nat.reduceAdd, Nat.reduceMul, Nat.reduceLeDiff, Nat.reduceSub, Nat.reduceLT, Int.reduceToNat, Int.reduceLT, Int.reduceLE, reduceCtorEq]
    repeat' ((first | refine FK_split (fun h_ => ?_) (fun h_ => ?_) | refine GK_split (fun h_ => ?_) (fun h_ => ?_) | refine ite_both (fun h_ => ?_) (fun h_ => ?_)) <;> (try simp only [decide_eq_true_eq, decide_eq_false_iff_not, Bool.not_true, Bool.not_false, Bool.not_eq_true', Bool.not_eq_false', Bool.not_eq_eq_eq_not, Decidable.not_not] at h_) <;> (try simp only [r29_0, r29_1, r29_2, r29_3, r29_4, r29_5, r29_6, r29_7, r29_8, c29, F29, vA, hk, h_, go_sem, Int.reduceTMod, Int.reduceTDiv, Int.reduceDiv, Int.reduceMod, Int.reduceAdd, Int.reduceSub, Int.reduceMul, Int.reduceNeg, Int.reducePow, Int.reduceEq, ↓reduceIte, Nat.reduceEqDiff, Nat.reduceAdd, Nat.reduceMul, Nat.reduceLeDiff, Nat.reduceSub, Nat.reduceLT, Int.reduceToNat, Int.reduceLT, Int.reduceLE, reduceCtorEq]))
    exact ⟨rnil, by rw [e], by omega, Or.inl ⟨by rw [e]; exact hk, rfl⟩⟩
  obtain ⟨hq0, hi⟩ := at_in hk
  obtain ⟨a, rfl⟩ : ∃ a : Nat, i = a := ⟨i.toNat, by omega⟩
  have hal : a < l.length := by omega
  obtain ⟨s, hs⟩ : ∃ s, l[a]? = some s := ⟨l[a], List.getElem?_eq_getElem hal⟩
  have hgd : l.getD (a : Int).toNat zS = s := by simp [List.getD_eq_getElem?_getD, hs]
  have hpE : pEr l a k p = if k < 0 ∨ need s.k ≤ k then 30 else chkP (pL l a k p) := by unfold pEr; rw [if_pos hk, hgd]
  by_cases h1 : k < 0
  · have e : pEr l a k p = 30 := by rw [hpE, if_pos (Or.inl h1)]
    try simp only [r29_0, r29_1, r29_2, r29_3, r29_4, r29_5, r29_6, r29_7, r29_8, c29, F29, vA, hk, h1, go_sem, Int.reduceTMod, Int.reduceTDiv, Int.reduceDiv, Int.reduceMod, Int.reduceAdd, Int.reduceSub, Int.reduceMul, Int.reduceNeg, Int.reducePow, Int.reduceEq, ↓reduceIte, Nat.reduceEqDiff, Nat.reduceAdd, Nat.reduceMul, Nat.reduceLeDiff, Nat.reduceSub, Nat.reduceLT, Int.reduceToNat, Int.reduceLT, Int.reduceLE, reduceCtorEq]
    repeat' ((first | refine FK_split (fun h_ => ?_) (fun h_ => ?_) | refine GK_split (fun h_ => ?_) (fun h_ => ?_) | refine ite_both (fun h_ => ?_) (fun h_ => ?_)) <;> (try simp only [decide_eq_true_eq, decide_eq_false_iff_not, Bool.not_true, Bool.not_false, Bool.not_eq_true', Bool.not_eq_false', Bool.not_eq_eq_eq_not, Decidable.not_not] at h_) <;> (try simp only [r29_0, r29_1, r29_2, r29_3, r29_4, r29_5, r29_6, r29_7, r29_8, c29, F29, vA, hk, h1, h_, go_sem, Int.reduceTMod, Int.reduceTDiv, Int.reduceDiv, Int.reduceMod, Int.reduceAdd, Int.reduceSub, Int.reduceMul, Int.reduceNeg, Int.reducePow, Int.reduceEq, ↓reduceIte, Nat.reduceEqDiff, Nat.reduceAdd, Nat.reduceMul, Nat.reduceLeDiff, Nat.reduceSub, Nat.reduceLT, Int.reduceToNat, Int.reduceLT, Int.reduceLE, reduceCtorEq]))
    exact ⟨rnil, by rw [e], by omega, Or.inl ⟨by rw [e]; decide, rfl⟩⟩
  obtain ⟨id, off, cap, hr1, hid, hrd⟩ := hr0.at cs7 hs
  obtain ⟨b, hb1, hb2⟩ := rd_cell hrd (a := 0) (c := I s.k) rfl
  rw [Nat.add_zero] at hb2
  subst hr1
  have c2 : ((a : Int) < (l.length : Int)) = True := eq_true (by omega)
  have c3 : (0 ≤ (a : Int)) = True := eq_true (by omega)
  have hb1' : (if id = n then some ⟨p.cs, true⟩ else m id) = some b := hb1
  have h0' : (if 0 = n then some ⟨p.cs, true⟩ else m 0) = some ⟨needC, o⟩ := hz
  by_cases h2 : need s.k ≤ k
  · have e : pEr l a k p = 30 := by rw [hpE, if_pos (Or.inr h2)]
    try simp only [r29_0, r29_1, r29_2, r29_3, r29_4, r29_5, r29_6, r29_7, r29_8, c29, F29, vA, hk, h1, h2, c2, c3, hb1', hb2, h0', needC_flat, v_Need, Int.toNat_natCast, go_sem, Int.reduceTMod, Int.reduceTDiv, Int.reduceDiv, Int.reduceMod, Int.reduceAdd, Int.reduceSub, Int.reduceMul, Int.reduceNeg, Int.reducePow, Int.reduceEq, ↓reduceIte, Nat.reduceEqDiff, Nat.reduceAdd, Nat.reduceMul, Nat.reduceLeDiff, Nat.reduceSub, Nat.reduceLT, Int.reduceToNat, Int.reduceLT, Int.reduceLE, reduceCtorEq]
    repeat' ((first | refine FK_split (fun h_ => ?_) (fun h_ => ?_) | refine GK_split (fun h_ => ?_) (fun h_ => ?_) | refine ite_both (fun h_ => ?_) (fun h_ => ?_)) <;> (try simp only [decide_eq_true_eq, decide_eq_false_iff_not, Bool.not_true, Bool.not_false, Bool.not_eq_true', Bool.not_eq_false', Bool.not_eq_eq_eq_not, Decidable.not_not] at h_) <;> (try simp only [r29_0, r29_1, r29_2, r29_3, r29_4, r29_5, r29_6, r29_7, r29_8, c29, F29, vA, hk, h1, h2, c2, c3, hb1', hb2, h0', needC_flat, v_Need, Int.toNat_natCast, h_, go_sem, Int.reduceTMod, Int.reduceTDiv, Int.reduceDiv, Int.reduceMod, Int.reduceAdd, Int.reduceSub, Int.reduceMul, Int.reduceNeg, Int.reducePow, Int.reduceEq, ↓reduceIte, Nat.reduceEqDiff, Nat.reduceAdd, Nat.reduceMul, Nat.reduceLeDiff, Nat.reduceSub, Nat.reduceLT, Int.reduceToNat, Int.reduceLT, Int.reduceLE, reduceCtorEq]))
    exact ⟨rnil, by rw [e], by omega, Or.inl ⟨by rw [e]; decide, rfl⟩⟩
  have e : pEr l a k p = chkP (pL l a k p) := by rw [hpE, if_neg (by omega)]
  obtain ⟨j, rfl⟩ : ∃ j : Nat, k = j := ⟨k.toNat, by omega⟩
  have hnb := need_bd s.k
  have hj : j < 3 := by omega
  have hpL : pL l a j p = l.set a (putP s p j) := by unfold pL; rw [hgd]; rfl
  have hrow := putP_row hs hj p
  rw [← hpL] at hrow
  have hll : (pL l a j p).length = l.length := by rw [hpL, List.length_set]
  try simp only [r29_0, r29_1, r29_2, r29_3, r29_4, r29_5, r29_6, r29_7, r29_8, c29, F29, vA, hk, h1, h2, c2, c3, hb1', hb2, h0', needC_flat, v_Need, Int.toNat_natCast, go_sem, Int.reduceTMod, Int.reduceTDiv, Int.reduceDiv, Int.reduceMod, Int.reduceAdd, Int.reduceSub, Int.reduceMul, Int.reduceNeg, Int.reducePow, Int.reduceEq, ↓reduceIte, Nat.reduceEqDiff, Nat.reduceAdd, Nat.reduceMul, Nat.reduceLeDiff, Nat.reduceSub, Nat.reduceLT, Int.reduceToNat, Int.reduceLT, Int.reduceLE, reduceCtorEq]
  repeat' ((first | refine FK_split (fun h_ => ?_) (fun h_ => ?_) | refine GK_split (fun h_ => ?_) (fun h_ => ?_) | refine ite_both (fun h_ => ?_) (fun h_ => ?_)) <;> (try simp only [decide_eq_true_eq, decide_eq_false_iff_not, Bool.not_true, Bool.not_false, Bool.not_eq_true', Bool.not_eq_false', Bool.not_eq_eq_eq_not, Decidable.not_not] at h_) <;> (try simp only [r29_0, r29_1, r29_2, r29_3, r29_4, r29_5, r29_6, r29_7, r29_8, c29, F29, vA, hk, h1, h2, c2, c3, hb1', hb2, h0', needC_flat, v_Need, Int.toNat_natCast, h_, go_sem, Int.reduceTMod, Int.reduceTDiv, Int.reduceDiv, Int.reduceMod, Int.reduceAdd, Int.reduceSub, Int.reduceMul, Int.reduceNeg, Int.reducePow, Int.reduceEq, ↓reduceIte, Nat.reduceEqDiff, Nat.reduceAdd, Nat.reduceMul, Nat.reduceLeDiff, Nat.reduceSub, Nat.reduceLT, Int.reduceToNat, Int.reduceLT, Int.reduceLE, reduceCtorEq]))
  refine RK_callk ?_
  refine (w_SClone hr0.frz (by omega)).mono ?_
  rintro r1 m1 n1 ⟨hcl, hn1⟩
  obtain ⟨M1, hM1⟩ : ∃ M1, M1 = unfrz (upd m n (some ⟨p.cs, true⟩)) (n + 1) m1 := ⟨_, rfl⟩
  rw [← hM1, show max (n + 1) n1 = n1 by omega]
  have hf1 : ∀ id, id < n + 1 → M1 id = upd m n (some ⟨p.cs, true⟩) id := fun id hid => by rw [hM1, unfrz_at, if_pos hid]
  have hg1 : ∀ id, n + 1 ≤ id → M1 id = m1 id := fun id hid => by rw [hM1, unfrz_at, if_neg (by omega)]
  have hz1 : M1 0 = some ⟨needC, o⟩ := by rw [hf1 0 (by omega)]; exact hz
  have hbx : M1 n = some ⟨p.cs, true⟩ := by rw [hf1 n (by omega), upd_same]
  clear hM1
  have hne : l ≠ [] := fun h => by rw [h] at hal; simp at hal
  obtain ⟨cb, cap1, rfl, hcb1, hcb2, hcb3, hcap⟩ := hcl.resolve_left (fun h => hne h.2)
  have hcap := hcap.resolve_right hne
  subst hcap
  have hCl : (l.flatMap Sg.cs).length = l.length * 7 := flatMap_len Sg.cs 7 cs7 l
  have tb : M1 cb = some ⟨l.flatMap Sg.cs, true⟩ := by rw [hg1 cb hcb1]; exact hcb3
  have hle : (a * 7 + 1 + j * 2 + 2 ≤ (l.flatMap Sg.cs).length) = True := eq_true (by rw [hCl]; omega)
  have d1 : (0 ≤ (j : Int)) = True := eq_true (by omega)
  have d2 : ((j : Int) < 3) = True := eq_true (by omega)
  have d3 : ((j : Int) < ((3 : Nat) : Int)) = True := eq_true (by omega)
  have hrow2 : RSg (upd M1 cb (some ⟨(pL l a j p).flatMap Sg.cs, true⟩)) n1 (.one (.sl cb 0 l.length none 7)) (pL l a j p) := by
    refine Or.inr ⟨cb, 0, none, by rw [hll], hcb2, ?_⟩
    have h7 := flatMap_len Sg.cs 7 cs7 (pL l a j p)
    rw [rd_of (upd_same _ _ _)]
    unfold rdB
    rw [if_pos (by rw [h7]; omega), List.drop_zero, ← h7, List.take_length]
  have hz2 : (upd M1 cb (some ⟨(pL l a j p).flatMap Sg.cs, true⟩)) 0 = some ⟨needC, o⟩ := by rw [upd_ne _ _ (by omega)]; exact hz1
  have tail : ∀ e' : Nat → Reg, e' 11 = .one (.sl cb 0 l.length none 7) → RK TA r29_8 e' (upd M1 cb (some ⟨(pL l a j p).flatMap Sg.cs, true⟩)) n1 (Kt.seq .ret (Kt.fin [.tmp 8, .tmp 9] (EdQ (pEr l a j p) (pL l a j p) n))) := by
    intro e' h11
    try simp only [r29_8, h11, go_sem, Int.reduceTMod, Int.reduceTDiv, Int.reduceDiv, Int.reduceMod, Int.reduceAdd, Int.reduceSub, Int.reduceMul, Int.reduceNeg, Int.reducePow, Int.reduceEq, ↓reduceIte, Nat.reduceEqDiff, Nat.reduceAdd, Nat.reduceMul, Nat.reduceLeDiff, Nat.reduceSub, Nat.reduceLT, Int.reduceToNat, Int.reduceLT, Int.reduceLE, reduceCtorEq]
    repeat' ((first | refine FK_split (fun h_ => ?_) (fun h_ => ?_) | refine GK_split (fun h_ => ?_) (fun h_ => ?_) | refine ite_both (fun h_ => ?_) (fun h_ => ?_)) <;> (try simp only [decide_eq_true_eq, decide_eq_false_iff_not, Bool.not_true, Bool.not_false, Bool.not_eq_true', Bool.not_eq_false', Bool.not_eq_eq_eq_not, Decidable.not_not] at h_) <;> (try simp only [r29_8, h11, h_, go_sem, Int.reduceTMod, Int.reduceTDiv, Int.reduceDiv, Int.reduceMod, Int.reduceAdd, Int.reduceSub, Int.reduceMul, Int.reduceNeg, Int.reducePow, Int.reduceEq, ↓reduceIte, Nat.reduceEqDiff, Nat.reduceAdd, Nat.reduceMul, Nat.reduceLeDiff, Nat.reduceSub, Nat.reduceLT, Int.reduceToNat, Int.reduceLT, Int.reduceLE, reduceCtorEq]))
    refine RK_callk ?_
    show Fn TA _ [.one (.sl cb 0 l.length none 7)] _ _ _
    refine (w_checked (o := false) hrow2.frz (by rw [frz_at, hz2]; rfl) (by omega)).mono ?_
    rintro r' m' n' ⟨rfl, rfl, rfl⟩
    generalize (upd M1 cb (some ⟨(pL l a j p).flatMap Sg.cs, true⟩)) = M2 at *
    have hrow3 : RSg (unfrz M2 n' (frz M2)) (max n' n') (.one (.sl cb 0 l.length none 7)) (pL l a j p) := hrow2.keep (by omega) (fun id hid => by rw [unfrz_at, if_pos hid])
    by_cases hq : chkP (pL l a j p) = 0
    · rw [if_pos hq]
      try simp only [r29_8, go_sem, Int.reduceTMod, Int.reduceTDiv, Int.reduceDiv, Int.reduceMod, Int.reduceAdd, Int.reduceSub, Int.reduceMul, Int.reduceNeg, Int.reducePow, Int.reduceEq, ↓reduceIte, Nat.reduceEqDiff, Nat.reduceAdd, Nat.reduceMul, Nat.reduceLeDiff, Nat.reduceSub, Nat.reduceLT, Int.reduceToNat, Int.reduceLT, Int.reduceLE, reduceCtorEq]
      repeat' ((first | refine FK_split (fun h_ => ?_) (fun h_ => ?_) | refine GK_split (fun h_ => ?_) (fun h_ => ?_) | refine ite_both (fun h_ => ?_) (fun h_ => ?_)) <;> (try simp only [decide_eq_true_eq, decide_eq_false_iff_not, Bool.not_true, Bool.not_false, Bool.not_eq_true', Bool.not_eq_false', Bool.not_eq_eq_eq_not, Decidable.not_not] at h_) <;> (try simp only [r29_8, h_, go_sem, Int.reduceTMod, Int.reduceTDiv, Int.reduceDiv, Int.reduceMod, Int.reduceAdd, Int.reduceSub, Int.reduceMul, Int.reduceNeg, Int.reducePow, Int.reduceEq, ↓reduceIte, Nat.reduceEqDiff, Nat.reduceAdd, Nat.reduceMul, Nat.reduceLeDiff, Nat.reduceSub, Nat.reduceLT, Int.reduceToNat, Int.reduceLT, Int.reduceLE, reduceCtorEq]))
      exact ⟨_, by rw [e], by omega, Or.inr ⟨by rw [e, hq], hrow3, trivial, fun j hj => by simp only [sid, Option.some.injEq] at hj; omega⟩⟩
    · rw [if_neg hq]
      try simp only [r29_8, go_sem, Int.reduceTMod, Int.reduceTDiv, Int.reduceDiv, Int.reduceMod, Int.reduceAdd, Int.reduceSub, Int.reduceMul, Int.reduceNeg, Int.reducePow, Int.reduceEq, ↓reduceIte, Nat.reduceEqDiff, Nat.reduceAdd, Nat.reduceMul, Nat.reduceLeDiff, Nat.reduceSub, Nat.reduceLT, Int.reduceToNat, Int.reduceLT, Int.reduceLE, reduceCtorEq]
      repeat' ((first | refine FK_split (fun h_ => ?_) (fun h_ => ?_) | refine GK_split (fun h_ => ?_) (fun h_ => ?_) | refine ite_both (fun h_ => ?_) (fun h_ => ?_)) <;> (try simp only [decide_eq_true_eq, decide_eq_false_iff_not, Bool.not_true, Bool.not_false, Bool.not_eq_true', Bool.not_eq_false', Bool.not_eq_eq_eq_not, Decidable.not_not] at h_) <;> (try simp only [r29_8, h_, go_sem, Int.reduceTMod, Int.reduceTDiv, Int.reduceDiv, Int.reduceMod, Int.reduceAdd, Int.reduceSub, Int.reduceMul, Int.reduceNeg, Int.reducePow, Int.reduceEq, ↓reduceIte, Nat.reduceEqDiff, Nat.reduceAdd, Nat.reduceMul, Nat.reduceLeDiff, Nat.reduceSub, Nat.reduceLT, Int.reduceToNat, Int.reduceLT, Int.reduceLE, reduceCtorEq]))
      exact ⟨rnil, by rw [e], by omega, Or.inl ⟨by rw [e]; exact hq, rfl⟩⟩
  rw [← hrow] at tail
  generalize hC : l.flatMap Sg.cs = C at *
  try simp only [r29_6, r29_7, c2, c3, d1, d2, d3, hbx, rd_of hbx, tb, hle, Int.toNat_natCast, go_sem, Int.reduceTMod, Int.reduceTDiv, Int.reduceDiv, Int.reduceMod, Int.reduceAdd, Int.reduceSub, Int.reduceMul, Int.reduceNeg, Int.reducePow, Int.reduceEq, ↓reduceIte, Nat.reduceEqDiff, Nat.reduceAdd, Nat.reduceMul, Nat.reduceLeDiff, Nat.reduceSub, Nat.reduceLT, Int.reduceToNat, Int.reduceLT, Int.reduceLE, reduceCtorEq]
  repeat' ((first | refine FK_split (fun h_ => ?_) (fun h_ => ?_) | refine GK_split (fun h_ => ?_) (fun h_ => ?_) | refine ite_both (fun h_ => ?_) (fun h_ => ?_)) <;> (try simp only [decide_eq_true_eq, decide_eq_false_iff_not, Bool.not_true, Bool.not_false, Bool.not_eq_true', Bool.not_eq_false', Bool.not_eq_eq_eq_not, Decidable.not_not] at h_) <;> (try simp only [r29_6, r29_7, c2, c3, d1, d2, d3, hbx, rd_of hbx, tb, hle, Int.toNat_natCast, h_, go_sem, Int.reduceTMod, Int.reduceTDiv, Int.reduceDiv, Int.reduceMod, Int.reduceAdd, Int.reduceSub, Int.reduceMul, Int.reduceNeg, Int.reducePow, Int.reduceEq, ↓reduceIte, Nat.reduceEqDiff, Nat.reduceAdd, Nat.reduceMul, Nat.reduceLeDiff, Nat.reduceSub, Nat.reduceLT, Int.reduceToNat, Int.reduceLT, Int.reduceLE, reduceCtorEq]))
  exact tail _ rfl
theorem v_is {x w : Reg} {l : List Sg} {e : Int} {m : Mem} {n : Nat} (hx : (e ≠ 0 ∧ x = rnil) ∨ (e = 0 ∧ RSg m n x l)) (he : e = chkP l) (hw : RSg m n w l) (hl : l.length < 4294967296) : callF TA 20 [x, RI e, w] m n = some (RB true) := by
  refine callF_of (Fn_ofK (fn := F20) rfl (by simp [F20]) ?_)
  have vC := v_rCheck hw.frz
  rw [← he] at vC
  rcases hx with ⟨h1, rfl⟩ | ⟨rfl, hx⟩
  · have a1 : lenO rnil = some 0 := rfl
    try simp only [r20_0, r20_1, r20_2, r20_3, r20_4, c20, F20, vC, h1, a1, go_sem, Int.reduceTMod, Int.reduceTDiv, Int.reduceDiv, Int.reduceMod, Int.reduceAdd, Int.reduceSub, Int.reduceMul, Int.reduceNeg, Int.reducePow, Int.reduceEq, ↓reduceIte, Nat.reduceEqDiff, Nat.reduceAdd, Nat.reduceMul, Nat.reduceLeDiff, Nat.reduceSub, Nat.reduceLT, Int.reduceToNat, Int.reduceLT, Int.reduceLE, reduceCtorEq]
    repeat' ((first | refine FK_split (fun h_ => ?_) (fun h_ => ?_) | refine GK_split (fun h_ => ?_) (fun h_ => ?_) | refine ite_both (fun h_ => ?_) (fun h_ => ?_)) <;> (try simp only [decide_eq_true_eq, decide_eq_false_iff_not, Bool.not_true, Bool.not_false, Bool.not_eq_true', Bool.not_eq_false', Bool.not_eq_eq_eq_not, Decidable.not_not] at h_) <;> (try simp only [r20_0, r20_1, r20_2, r20_3, r20_4, c20, F20, vC, h1, a1, h_, go_sem, Int.reduceTMod, Int.reduceTDiv, Int.reduceDiv, Int.reduceMod, Int.reduceAdd, Int.reduceSub, Int.reduceMul, Int.reduceNeg, Int.reducePow, Int.reduceEq, ↓reduceIte, Nat.reduceEqDiff, Nat.reduceAdd, Nat.reduceMul, Nat.reduceLeDiff, Nat.reduceSub, Nat.reduceLT, Int.reduceToNat, Int.reduceLT, Int.reduceLE, reduceCtorEq]))
  · have vS := v_same06 hx.frz hw.frz hl
    try simp only [r20_0, r20_1, r20_2, r20_3, r20_4, c20, F20, vC, vS, go_sem, Int.reduceTMod, Int.reduceTDiv, Int.reduceDiv, Int.reduceMod, Int.reduceAdd, Int.reduceSub, Int.reduceMul, Int.reduceNeg, Int.reducePow, Int.reduceEq, ↓reduceIte, Nat.reduceEqDiff, Nat.reduceAdd, Nat.reduceMul, Nat.reduceLeDiff, Nat.reduceSub, Nat.reduceLT, Int.reduceToNat, Int.reduceLT, Int.reduceLE, reduceCtorEq]
    repeat' ((first | refine FK_split (fun h_ => ?_) (fun h_ => ?_) | refine GK_split (fun h_ => ?_) (fun h_ => ?_) | refine ite_both (fun h_ => ?_) (fun h_ => ?_)) <;> (try simp only [decide_eq_true_eq, decide_eq_false_iff_not, Bool.not_true, Bool.not_false, Bool.not_eq_true', Bool.not_eq_false', Bool.not_eq_eq_eq_not, Decidable.not_not] at h_) <;> (try simp only [r20_0, r20_1, r20_2, r20_3, r20_4, c20, F20, vC, vS, h_, go_sem, Int.reduceTMod, Int.reduceTDiv, Int.reduceDiv, Int.reduceMod, Int.reduceAdd, Int.reduceSub, Int.reduceMul, Int.reduceNeg, Int.reducePow, Int.reduceEq, ↓reduceIte, Nat.reduceEqDiff, Nat.reduceAdd, Nat.reduceMul, Nat.reduceLeDiff, Nat.reduceSub, Nat.reduceLT, Int.reduceToNat, Int.reduceLT, Int.reduceLE, reduceCtorEq]))
end Go.Proofs.YtpleidpbapgmiaaDoor.Sy
