import Derived.Test.YtpleidpbapgmiaaDoorMgG
/- Edits of paths: is there a segment, rows put together. Conditions: those that each theorem names. -/
namespace Go.Proofs.YtpleidpbapgmiaaDoor.Sy
open Go Go.Proofs
set_option linter.unusedSimpArgs false
set_option linter.unusedVariables false
set_option maxRecDepth 20000
attribute [local go_sem] XK_seq XK_block XK_skip XK_exit XK_ret XK_cond XK_reg XK_dreg XK_ureg KN_seq KN_blk KN_lp KN_chk KN_chku KN_top KN_fin KX_seq KX_lp KX_blk KX_chk KX_top KR_seq KR_blk KR_lp KR_chk KR_top KR_fin FK_true FK_false RK_nil RK_mv RK_pick RK_alloc RK_box RK_build RK_bslice RK_load1 RK_loadA RK_store RK_nilchk RK_bin RK_beq RK_eqv RK_eqnil RK_un RK_conv RK_mkfn RK_mkslice RK_slS RK_slA RK_fadr RK_fld RK_iadrA RK_iadrS RK_idxA RK_ext RK_lenC RK_cap RK_app RK_appz RK_pre RK_cpy RK_mn RK_mx RK_len RK_carry RK_clr carryR um0 um1 ThenK_some RK_guard GK_tt GK_ff GK_tf GK_ft GK_none QK_some RK_callQ RK_callZ RK_callT TK_some VK_clo RK_callV
  evalOp evO evOs upd_at unfrz_at putE_some putE_none boolOf_b boolOf_tup Option.map_some evRes pack_one pack_two pack_three pack_none List.getD_cons_zero List.getD_cons_succ getD_nil
  Option.some.injEq exists_eq_left' Reg.cs? fillC setL List.set_cons_zero List.set_cons_succ List.length_cons List.length_nil rd_upd rd_updn rdB wr List.drop_zero List.drop_succ_cons List.take_succ_cons List.take_zero List.getElem?_cons_zero List.getElem?_cons_succ
  ix Int.toNat_zero lenO_sl lenO_nil nadd na_eq na_eq' na_lt na_ee na_ll na_ne na_ne' na_tt
attribute [local go_sem] Reg.flat_one Reg.flat_agg Reg.flat_tup flats_nil flats_cons Cell.flat_sc Cell.flat_ptr List.all_cons List.all_nil disOk safeOk safeR decide_eq_true_eq decide_eq_false_iff_not
  List.map_cons List.map_nil List.cons_append List.nil_append List.append_nil evalOp.capsOf Bool.false_bne Bool.bne_false Bool.true_bne Bool.bne_true bne_self_eq_false beq_self_eq_true Bool.not_not Bool.false_and Bool.and_false Bool.true_or Bool.or_true beq_iff_eq eqCells
  Bool.true_beq Bool.false_beq Bool.not_eq_true' Bool.not_eq_eq_eq_not Bool.not_eq_false' and_false false_and frz_at idOf noId Option.isSome_some Bool.and_eq_true
attribute [local go_sem] wr_eq bV_add bV_sub bV_mul bV_eql bV_neq bV_lss bV_leq bV_gtr bV_geq bV_quo bV_rem bV_shr bV_shl uV_not uV_neg wrapU bits_and bits_or bits_xor IntKind.bits Nat.min_eq_left Nat.min_eq_right Nat.min_self
attribute [local go_sem] bne_iff_ne Int.cast_ofNat_Int Nat.zero_add Nat.add_zero and_self and_true true_and ne_eq not_false_eq_true not_true_eq_false decide_true decide_false Bool.false_eq_true Bool.not_true Bool.not_false Bool.true_and Bool.and_true Bool.or_false Bool.false_or Bool.and_self

def atE (l : List Sg) (i : Int) : Int := if chkP l = 0 then (if i < 0 ∨ (l.length : Int) ≤ i then 30 else 0) else chkP l
theorem v_at {r : Reg} {l : List Sg} {m : Mem} {n : Nat} {o : Bool} (i : Int) (hr : RSg m n r l) (h0 : m 0 = some ⟨needC, o⟩) (hn : 0 < n) : callF TA 42 [r, RI i] m n = some (RI (atE l i)) := by
  refine callF_of (Fn_ofK (fn := F42) rfl (by simp [F42]) ?_)
  have hlen := hr.len
  have vC := v_Check (o := false) hr.frz (by rw [frz_at, h0]; rfl) hn
  by_cases hk : chkP l = 0
  case neg =>
    have e : atE l i = chkP l := if_neg hk
    try simp only [r42_0, r42_1, r42_2, r42_3, r42_4, r42_5, r42_6, c42, F42, vC, hk, e, go_sem, Int.reduceTMod, Int.reduceTDiv, Int.reduceDiv, Int.reduceMod, Int.reduceAdd, Int.reduceSub, Int.reduceMul, Int.reduceNeg, Int.reducePow, Int.reduceEq, ↓reduceIte, Nat.reduceEqDiff, Nat.reduceAdd, Nat.reduceMul, Nat.reduceLeDiff, Nat.reduceSub, Nat.reduceLT, Int.reduceToNat, Int.reduceLT, Int.reduceLE, reduceCtorEq]
    repeat' ((first | refine FK_split (fun h_ => ?_) (fun h_ => ?_) | refine GK_split (fun h_ => ?_) (fun h_ => ?_) | refine ite_both (fun h_ => ?_) (fun h_ => ?_)) <;> (try simp only [decide_eq_true_eq, decide_eq_false_iff_not, Bool.not_true, Bool.not_false, Bool.not_eq_true', Bool.not_eq_false', Bool.not_eq_eq_eq_not, Decidable.not_not] at h_) <;> (try simp only [r42_0, r42_1, r42_2, r42_3, r42_4, r42_5, r42_6, c42, F42, vC, hk, e, h_, go_sem, Int.reduceTMod, Int.reduceTDiv, Int.reduceDiv, Int.reduceMod, Int.reduceAdd, Int.reduceSub, Int.reduceMul, Int.reduceNeg, Int.reducePow, Int.reduceEq, ↓reduceIte, Nat.reduceEqDiff, Nat.reduceAdd, Nat.reduceMul, Nat.reduceLeDiff, Nat.reduceSub, Nat.reduceLT, Int.reduceToNat, Int.reduceLT, Int.reduceLE, reduceCtorEq]))
  by_cases h1 : i < 0
  · have e : atE l i = 30 := by unfold atE; rw [if_pos hk, if_pos (Or.inl h1)]
    try simp only [r42_0, r42_1, r42_2, r42_3, r42_4, r42_5, r42_6, c42, F42, vC, hk, h1, e, go_sem, Int.reduceTMod, Int.reduceTDiv, Int.reduceDiv, Int.reduceMod, Int.reduceAdd, Int.reduceSub, Int.reduceMul, Int.reduceNeg, Int.reducePow, Int.reduceEq, ↓reduceIte, Nat.reduceEqDiff, Nat.reduceAdd, Nat.reduceMul, Nat.reduceLeDiff, Nat.reduceSub, Nat.reduceLT, Int.reduceToNat, Int.reduceLT, Int.reduceLE, reduceCtorEq]
    repeat' ((first | refine FK_split (fun h_ => ?_) (fun h_ => ?_) | refine GK_split (fun h_ => ?_) (fun h_ => ?_) | refine ite_both (fun h_ => ?_) (fun h_ => ?_)) <;> (try simp only [decide_eq_true_eq, decide_eq_false_iff_not, Bool.not_true, Bool.not_false, Bool.not_eq_true', Bool.not_eq_false', Bool.not_eq_eq_eq_not, Decidable.not_not] at h_) <;> (try simp only [r42_0, r42_1, r42_2, r42_3, r42_4, r42_5, r42_6, c42, F42, vC, hk, h1, e, h_, go_sem, Int.reduceTMod, Int.reduceTDiv, Int.reduceDiv, Int.reduceMod, Int.reduceAdd, Int.reduceSub, Int.reduceMul, Int.reduceNeg, Int.reducePow, Int.reduceEq, ↓reduceIte, Nat.reduceEqDiff, Nat.reduceAdd, Nat.reduceMul, Nat.reduceLeDiff, Nat.reduceSub, Nat.reduceLT, Int.reduceToNat, Int.reduceLT, Int.reduceLE, reduceCtorEq]))
  by_cases h2 : (l.length : Int) ≤ i
  · have e : atE l i = 30 := by unfold atE; rw [if_pos hk, if_pos (Or.inr h2)]
    try simp only [r42_0, r42_1, r42_2, r42_3, r42_4, r42_5, r42_6, c42, F42, vC, hk, h1, h2, hlen, e, go_sem, Int.reduceTMod, Int.reduceTDiv, Int.reduceDiv, Int.reduceMod, Int.reduceAdd, Int.reduceSub, Int.reduceMul, Int.reduceNeg, Int.reducePow, Int.reduceEq, ↓reduceIte, Nat.reduceEqDiff, Nat.reduceAdd, Nat.reduceMul, Nat.reduceLeDiff, Nat.reduceSub, Nat.reduceLT, Int.reduceToNat, Int.reduceLT, Int.reduceLE, reduceCtorEq]
    repeat' ((first | refine FK_split (fun h_ => ?_) (fun h_ => ?_) | refine GK_split (fun h_ => ?_) (fun h_ => ?_) | refine ite_both (fun h_ => ?_) (fun h_ => ?_)) <;> (try simp only [decide_eq_true_eq, decide_eq_false_iff_not, Bool.not_true, Bool.not_false, Bool.not_eq_true', Bool.not_eq_false', Bool.not_eq_eq_eq_not, Decidable.not_not] at h_) <;> (try simp only [r42_0, r42_1, r42_2, r42_3, r42_4, r42_5, r42_6, c42, F42, vC, hk, h1, h2, hlen, e, h_, go_sem, Int.reduceTMod, Int.reduceTDiv, Int.reduceDiv, Int.reduceMod, Int.reduceAdd, Int.reduceSub, Int.reduceMul, Int.reduceNeg, Int.reducePow, Int.reduceEq, ↓reduceIte, Nat.reduceEqDiff, Nat.reduceAdd, Nat.reduceMul, Nat.reduceLeDiff, Nat.reduceSub, Nat.reduceLT, Int.reduceToNat, Int.reduceLT, Int.reduceLE, reduceCtorEq]))
  · have e : atE l i = 0 := by unfold atE; rw [if_pos hk, if_neg (by omega)]
    try simp only [r42_0, r42_1, r42_2, r42_3, r42_4, r42_5, r42_6, c42, F42, vC, hk, h1, h2, hlen, e, go_sem, Int.reduceTMod, Int.reduceTDiv, Int.reduceDiv, Int.reduceMod, Int.reduceAdd, Int.reduceSub, Int.reduceMul, Int.reduceNeg, Int.reducePow, Int.reduceEq, ↓reduceIte, Nat.reduceEqDiff, Nat.reduceAdd, Nat.reduceMul, Nat.reduceLeDiff, Nat.reduceSub, Nat.reduceLT, Int.reduceToNat, Int.reduceLT, Int.reduceLE, reduceCtorEq]
    repeat' ((first | refine FK_split (fun h_ => ?_) (fun h_ => ?_) | refine GK_split (fun h_ => ?_) (fun h_ => ?_) | refine ite_both (fun h_ => ?_) (fun h_ => ?_)) <;> (try simp only [decide_eq_true_eq, decide_eq_false_iff_not, Bool.not_true, Bool.not_false, Bool.not_eq_true', Bool.not_eq_false', Bool.not_eq_eq_eq_not, Decidable.not_not] at h_) <;> (try simp only [r42_0, r42_1, r42_2, r42_3, r42_4, r42_5, r42_6, c42, F42, vC, hk, h1, h2, hlen, e, h_, go_sem, Int.reduceTMod, Int.reduceTDiv, Int.reduceDiv, Int.reduceMod, Int.reduceAdd, Int.reduceSub, Int.reduceMul, Int.reduceNeg, Int.reducePow, Int.reduceEq, ↓reduceIte, Nat.reduceEqDiff, Nat.reduceAdd, Nat.reduceMul, Nat.reduceLeDiff, Nat.reduceSub, Nat.reduceLT, Int.reduceToNat, Int.reduceLT, Int.reduceLE, reduceCtorEq]))
theorem bnds_lo {len i : Nat} (h : i ≤ len) : bnds len none (some (RI i)) none none = some (i, len, none) := by
  simp [bnds, bMax, bHigh, bLow, inR_nat h]
theorem bnds_hi {len i : Nat} (h : i ≤ len) : bnds len none none (some (RI i)) none = some (0, i, none) := by
  simp [bnds, bMax, bHigh, bLow, inR_nat h]
theorem bnds_00 : bnds 0 (some 0) none (some (RI 0)) none = some (0, 0, some 0) := by simp [bnds, bMax, bHigh, bLow, inR, ix]
theorem bnds_h0 {len : Nat} : bnds len none none (some (RI 0)) none = some (0, 0, none) := bnds_hi (i := 0) (Nat.zero_le _)
theorem w_Grow {k : Nat} {m : Mem} {n : Nat} (hk : k ≤ 4294967296) :
    Fn TA 59 [rnil, RI k] m n (fun r' m' n' => n ≤ n' ∧ ((k = 0 ∧ r' = rnil) ∨ (0 < k ∧ ∃ id cs, r' = .one (.sl id 0 0 none 7) ∧ n ≤ id ∧ id < n' ∧ m' id = some ⟨cs, true⟩))) := by
  refine Fn_ofK (fn := F59) rfl (by simp [F59]) ?_
  have g0 : ((k : Int) < 0) = False := eq_false (by omega)
  have w0 : IntKind.i64.wrap (k : Int) = k := wr_eq (by omega) (by omega)
  by_cases hz : k = 0
  · subst hz
    try simp only [r59_0, r59_1, r59_2, r59_3, r59_4, r59_5, r59_6, c59, F59, g0, w0, go_sem, Int.reduceTMod, Int.reduceTDiv, Int.reduceDiv, Int.reduceMod, Int.reduceAdd, Int.reduceSub, Int.reduceMul, Int.reduceNeg, Int.reducePow, Int.reduceEq, ↓reduceIte, Nat.reduceEqDiff, Nat.reduceAdd, Nat.reduceMul, Nat.reduceLeDiff, Nat.reduceSub, Nat.reduceLT, Int.reduceToNat, Int.reduceLT, Int.reduceLE, reduceCtorEq]
    repeat' ((first | refine FK_split (fun h_ => ?_) (fun h_ => ?_) | refine GK_split (fun h_ => ?_) (fun h_ => ?_) | refine ite_both (fun h_ => ?_) (fun h_ => ?_)) <;> (try simp only [decide_eq_true_eq, decide_eq_false_iff_not, Bool.not_true, Bool.not_false, Bool.not_eq_true', Bool.not_eq_false', Bool.not_eq_eq_eq_not, Decidable.not_not] at h_) <;> (try simp only [r59_0, r59_1, r59_2, r59_3, r59_4, r59_5, r59_6, c59, F59, g0, w0, h_, go_sem, Int.reduceTMod, Int.reduceTDiv, Int.reduceDiv, Int.reduceMod, Int.reduceAdd, Int.reduceSub, Int.reduceMul, Int.reduceNeg, Int.reducePow, Int.reduceEq, ↓reduceIte, Nat.reduceEqDiff, Nat.reduceAdd, Nat.reduceMul, Nat.reduceLeDiff, Nat.reduceSub, Nat.reduceLT, Int.reduceToNat, Int.reduceLT, Int.reduceLE, reduceCtorEq]))
    exact ⟨Nat.le_refl _, Or.inl trivial⟩
  · have g1 : (0 < (k : Int)) = True := eq_true (by omega)
    have g2 : ((k : Int) = 0) = False := eq_false (by omega)
    have g3 : (0 ≤ (k : Int)) = True := eq_true (by omega)
    have g4 : ((k : Int) ≤ 4294967296) = True := eq_true (by omega)
    try simp only [r59_0, r59_1, r59_2, r59_3, r59_4, r59_5, r59_6, c59, F59, g0, g1, g2, g3, g4, w0, Int.sub_zero, bnds_00, bnds_h0, Option.map_none, Int.toNat_natCast, go_sem, Int.reduceTMod, Int.reduceTDiv, Int.reduceDiv, Int.reduceMod, Int.reduceAdd, Int.reduceSub, Int.reduceMul, Int.reduceNeg, Int.reducePow, Int.reduceEq, ↓reduceIte, Nat.reduceEqDiff, Nat.reduceAdd, Nat.reduceMul, Nat.reduceLeDiff, Nat.reduceSub, Nat.reduceLT, Int.reduceToNat, Int.reduceLT, Int.reduceLE, reduceCtorEq]
    repeat' ((first | refine FK_split (fun h_ => ?_) (fun h_ => ?_) | refine GK_split (fun h_ => ?_) (fun h_ => ?_) | refine ite_both (fun h_ => ?_) (fun h_ => ?_)) <;> (try simp only [decide_eq_true_eq, decide_eq_false_iff_not, Bool.not_true, Bool.not_false, Bool.not_eq_true', Bool.not_eq_false', Bool.not_eq_eq_eq_not, Decidable.not_not] at h_) <;> (try simp only [r59_0, r59_1, r59_2, r59_3, r59_4, r59_5, r59_6, c59, F59, g0, g1, g2, g3, g4, w0, Int.sub_zero, bnds_00, bnds_h0, Option.map_none, Int.toNat_natCast, h_, go_sem, Int.reduceTMod, Int.reduceTDiv, Int.reduceDiv, Int.reduceMod, Int.reduceAdd, Int.reduceSub, Int.reduceMul, Int.reduceNeg, Int.reducePow, Int.reduceEq, ↓reduceIte, Nat.reduceEqDiff, Nat.reduceAdd, Nat.reduceMul, Nat.reduceLeDiff, Nat.reduceSub, Nat.reduceLT, Int.reduceToNat, Int.reduceLT, Int.reduceLE, reduceCtorEq]))
    exact ⟨by omega, Or.inr ⟨by omega, n, _, rfl, by omega, by omega, if_pos rfl⟩⟩
/-- A row of the call's own, its block with more than what is read. -/
def GL (base : Nat) (m : Mem) (n : Nat) (r : Reg) (l : List Sg) : Prop :=
  (r = rnil ∧ l = []) ∨ ∃ id cs, r = .one (.sl id 0 l.length none 7) ∧ base ≤ id ∧ id < n ∧ m id = some ⟨cs, true⟩ ∧ rd m id 0 (l.length * 7) = some (l.flatMap Sg.cs)
theorem GL.rl {base : Nat} {m : Mem} {n : Nat} {r : Reg} {l : List Sg} (h : GL base m n r l) : RSg m n r l := by
  rcases h with h | ⟨id, cs, h1, h2, h3, h4, h5⟩
  · exact Or.inl h
  · exact Or.inr ⟨id, 0, none, h1, h3, h5⟩
theorem GL.sidge {base : Nat} {m : Mem} {n : Nat} {r : Reg} {l : List Sg} (h : GL base m n r l) {j : Nat} (hj : sid r = some j) : base ≤ j := by
  rcases h with ⟨rfl, _⟩ | ⟨id, cs, rfl, h2, _⟩
  · cases hj
  · simp only [sid, Option.some.injEq] at hj; omega
theorem GL.keep {base : Nat} {m m' : Mem} {n n' : Nat} {r : Reg} {l : List Sg} (h : GL base m n r l) (hn : n ≤ n') (hm : ∀ id, base ≤ id → id < n → m' id = m id) : GL base m' n' r l := by
  rcases h with h | ⟨id, cs, h1, h2, h3, h4, h5⟩
  · exact Or.inl h
  · have := hm id h2 h3
    exact Or.inr ⟨id, cs, h1, h2, by omega, by rw [this]; exact h4, by rw [rd_same this]; exact h5⟩
theorem K_catG {T : Nat → Option SFun} {base n0 n nx : Nat} {m0 m : Mem} {r0 x : Reg} {l xs : List Sg} {by' : Nat} {d : Option Nat} {os : List SOper} {e : Nat → Reg} {k : Kt}
    (ho : GL base m0 n0 r0 l) (hn : n0 ≤ n) (hm : ∀ id, base ≤ id → id < n0 → m id = m0 id) (hx : RSg m nx x xs) (hsm : l.length + xs.length ≤ 4294967296) (hbase : base ≤ n)
    (next : ∀ r' m' n', n ≤ n' → GL base m' n' r' (l ++ xs) → (∀ id, id < n → sid r0 ≠ some id → m' id = m id) → RK T os (putE e d r') m' n' k) :
    ThenK T d os e k (evApp m n 7 by' r0 x) := by
  have hnews : newsOf m 7 x = some (xs.length, xs.flatMap Sg.cs) := by
    rcases hx with ⟨rfl, rfl⟩ | ⟨ix, off, cap, rfl, _, h3⟩
    · rfl
    · simp only [newsOf, if_true, h3, Option.map_some]
  have mk : ∀ (m1 : Mem) (id : Nat) (k : List Sg), m1 id = some ⟨k.flatMap Sg.cs, true⟩ → rd m1 id 0 (k.length * 7) = some (k.flatMap Sg.cs) := fun m1 id k h => by
    have hl := flatMap_len Sg.cs 7 cs7 k
    rw [rd_of h]
    unfold rdB
    rw [if_pos (by rw [hl]; omega), List.drop_zero, ← hl, List.take_length]
  rcases ho with ⟨rfl, rfl⟩ | ⟨id, cs, rfl, h2, h3, h4, h4'⟩
  · simp only [evApp, hnews]
    by_cases hx0 : xs = []
    · subst hx0
      simp only [List.length_nil, if_true]
      exact next _ _ _ (Nat.le_refl _) (Or.inl ⟨rfl, rfl⟩) (fun _ _ _ => rfl)
    · have hpos := List.length_pos_iff.2 hx0
      rw [if_neg (by omega), if_pos (by simp only [List.length_nil] at hsm; omega)]
      exact next _ _ _ (Nat.le_succ _) (Or.inr ⟨n, _, by simp, hbase, by omega, upd_same _ _ _, mk _ _ _ (by rw [upd_same]; simp)⟩) (fun i hi _ => upd_ne _ _ (by omega))
  · have h5 : m id = some ⟨cs, true⟩ := by rw [hm id h2 h3]; exact h4
    have h6 : rd m id 0 (l.length * 7) = some (l.flatMap Sg.cs) := by rw [rd_same (hm id h2 h3)]; exact h4'
    simp only [evApp, hnews, if_true, h5, h6, Option.map_some, true_and, if_pos hsm]
    exact next _ _ _ (Nat.le_succ _) (Or.inr ⟨n, _, by simp, hbase, by omega, upd_same _ _ _, mk _ _ _ (by rw [upd_same]; simp)⟩) (fun i hi hs => by rw [upd_ne _ _ (by omega), upd_ne _ _ (fun e => hs (by rw [e]; rfl))])
/-- Cells that are rows. -/
def RLs (m : Mem) (n : Nat) : List Cell → List (List Sg) → Prop
  | [], [] => True
  | c :: cs, l :: ls => RSg m n (.one c) l ∧ RLs m n cs ls
  | _, _ => False
theorem RLs.len {m : Mem} {n : Nat} : ∀ {cs : List Cell} {ls : List (List Sg)}, RLs m n cs ls → cs.length = ls.length
  | [], [], _ => rfl
  | _ :: _, _ :: _, h => by rw [List.length_cons, List.length_cons, h.2.len]
theorem RLs.get {m : Mem} {n : Nat} : ∀ {cs : List Cell} {ls : List (List Sg)} {i : Nat} {l : List Sg}, RLs m n cs ls → ls[i]? = some l → ∃ c, cs[i]? = some c ∧ RSg m n (.one c) l
  | c :: _, _ :: _, 0, _, h, hi => by cases hi; exact ⟨c, rfl, h.1⟩
  | _ :: _, _ :: _, i + 1, _, h, hi => h.2.get (i := i) (by simpa using hi)
  | [], [], _, _, _, hi => by simp at hi
theorem flat_snoc {ls : List (List Sg)} {i : Nat} {l : List Sg} (h : ls[i]? = some l) : (ls.take (i + 1)).flatten = (ls.take i).flatten ++ l := by
  rw [take_snoc h, List.flatten_append]
  simp
theorem flat_le : ∀ (ls : List (List Sg)) (i : Nat), (ls.take i).flatten.length ≤ ls.flatten.length
  | [], i => by simp
  | l :: ls, 0 => by simp
  | l :: ls, i + 1 => by
    have := flat_le ls i
    simp only [List.take_succ_cons, List.flatten_cons, List.length_append]
    omega
set_option maxHeartbeats 2000000 in
theorem w_Concat {cs : List Cell} {ls : List (List Sg)} {m : Mem} {n b : Nat} {ow : Bool} (hb : m b = some ⟨cs, ow⟩) (hbn : b < n) (hl : RLs m n cs ls) (hs : ls.flatten.length < 4294967296) (hls : ls.length < 4294967296) :
    Fn TA 45 [.one (.sl b 0 cs.length (some cs.length) 1)] m n (fun r' m' n' => n ≤ n' ∧ GL n m' n' r' ls.flatten) := by
  refine Fn_ofK (fn := F45) rfl (by simp [F45]) ?_
  have hcl := hl.len
  rw [hcl]
  try simp only [F45, c45, r45_0, r45_1, r45_2, go_sem, Int.reduceTMod, Int.reduceTDiv, Int.reduceDiv, Int.reduceMod, Int.reduceAdd, Int.reduceSub, Int.reduceMul, Int.reduceNeg, Int.reducePow, Int.reduceEq, ↓reduceIte, Nat.reduceEqDiff, Nat.reduceAdd, Nat.reduceMul, Nat.reduceLeDiff, Nat.reduceSub, Nat.reduceLT, Int.reduceToNat, Int.reduceLT, Int.reduceLE, reduceCtorEq]
  repeat' ((first | refine FK_split (fun h_ => ?_) (fun h_ => ?_) | refine GK_split (fun h_ => ?_) (fun h_ => ?_) | refine ite_both (fun h_ => ?_) (fun h_ => ?_)) <;> (try simp only [decide_eq_true_eq, decide_eq_false_iff_not, Bool.not_true, Bool.not_false, Bool.not_eq_true', Bool.not_eq_false', Bool.not_eq_eq_eq_not, Decidable.not_not] at h_) <;> (try simp only [F45, c45, r45_0, r45_1, r45_2, h_, go_sem, Int.reduceTMod, Int.reduceTDiv, Int.reduceDiv, Int.reduceMod, Int.reduceAdd, Int.reduceSub, Int.reduceMul, Int.reduceNeg, Int.reducePow, Int.reduceEq, ↓reduceIte, Nat.reduceEqDiff, Nat.reduceAdd, Nat.reduceMul, Nat.reduceLeDiff, Nat.reduceSub, Nat.reduceLT, Int.reduceToNat, Int.reduceLT, Int.reduceLE, reduceCtorEq]))
  refine XK_iter (inv := fun i s => s.e 11 = RI i ∧ s.e 10 = RI ls.length ∧ s.e 9 = .one (.sl b 0 ls.length (some ls.length) 1) ∧ s.e 0 = .one (.sl b 0 ls.length (some ls.length) 1) ∧ s.e 3 = RI (ls.take i).flatten.length ∧ s.m = m ∧ s.n = n) ls.length
    (fun L _ => ⟨fun i hi s hs next => ?_, fun s hs => ?_⟩) 0 (by omega) _ ⟨?_, ?_, ?_, ?_, ?_, rfl, rfl⟩
  · obtain ⟨e, M, N⟩ := s
    obtain ⟨q11, q10, q9, q0, q3, qm, qn⟩ := hs
    simp only at q11 q10 q9 q0 q3 qm qn
    subst qm qn
    have hp : ls[i]? = some ls[i] := List.getElem?_eq_getElem hi
    obtain ⟨c, hc, hr⟩ := hl.get hp
    have hsn := congrArg List.length (flat_snoc hp)
    have hle := flat_le ls (i + 1)
    rw [List.length_append] at hsn
    generalize ls[i] = p at *
    have hlen := hr.len
    have c2 : ((i : Int) < (ls.length : Int)) = True := eq_true (by omega)
    have c3 : (0 ≤ (i : Int)) = True := eq_true (by omega)
    have c7 : IntKind.i64.wrap ((i : Int) + 1) = ((i + 1 : Nat) : Int) := wr_nat (by omega)
    have w1 : IntKind.i64.wrap (((ls.take i).flatten.length : Int) + (p.length : Int)) = (((ls.take (i + 1)).flatten.length : Nat) : Int) := (wr_eq (by omega) (by omega)).trans (by omega)
    have c4 : ((((ls.take (i + 1)).flatten.length : Nat) : Int) < 0) = False := eq_false (by omega)
    generalize (ls.take (i + 1)).flatten.length = S1 at *
    generalize (ls.take i).flatten.length = S0 at *
    try simp only [r45_0, r45_1, r45_2, r45_3, r45_4, r45_5, r45_6, r45_7, r45_8, r45_9, r45_10, r45_11, r45_12, r45_13, r45_14, r45_15, c45, F45, l45_0, q11, q10, q9, q3, c2, c3, c4, c7, w1, hb, hc, hlen, Int.toNat_natCast, Nat.mul_one, Nat.zero_add, go_sem, Int.reduceTMod, Int.reduceTDiv, Int.reduceDiv, Int.reduceMod, Int.reduceAdd, Int.reduceSub, Int.reduceMul, Int.reduceNeg, Int.reducePow, Int.reduceEq, ↓reduceIte, Nat.reduceEqDiff, Nat.reduceAdd, Nat.reduceMul, Nat.reduceLeDiff, Nat.reduceSub, Nat.reduceLT, Int.reduceToNat, Int.reduceLT, Int.reduceLE, reduceCtorEq]
    repeat' ((first | refine FK_split (fun h_ => ?_) (fun h_ => ?_) | refine GK_split (fun h_ => ?_) (fun h_ => ?_) | refine ite_both (fun h_ => ?_) (fun h_ => ?_)) <;> (try simp only [decide_eq_true_eq, decide_eq_false_iff_not, Bool.not_true, Bool.not_false, Bool.not_eq_true', Bool.not_eq_false', Bool.not_eq_eq_eq_not, Decidable.not_not] at h_) <;> (try simp only [r45_0, r45_1, r45_2, r45_3, r45_4, r45_5, r45_6, r45_7, r45_8, r45_9, r45_10, r45_11, r45_12, r45_13, r45_14, r45_15, c45, F45, l45_0, q11, q10, q9, q3, c2, c3, c4, c7, w1, hb, hc, hlen, Int.toNat_natCast, Nat.mul_one, Nat.zero_add, h_, go_sem, Int.reduceTMod, Int.reduceTDiv, Int.reduceDiv, Int.reduceMod, Int.reduceAdd, Int.reduceSub, Int.reduceMul, Int.reduceNeg, Int.reducePow, Int.reduceEq, ↓reduceIte, Nat.reduceEqDiff, Nat.reduceAdd, Nat.reduceMul, Nat.reduceLeDiff, Nat.reduceSub, Nat.reduceLT, Int.reduceToNat, Int.reduceLT, Int.reduceLE, reduceCtorEq]))
    refine next _ ⟨?_, ?_, ?_, ?_, ?_, rfl, rfl⟩
    · simp only [go_sem, Int.reduceTMod, Int.reduceTDiv, Int.reduceDiv, Int.reduceMod, Int.reduceAdd, Int.reduceSub, Int.reduceMul, Int.reduceNeg, Int.reducePow, Int.reduceEq, ↓reduceIte, Nat.reduceEqDiff, Nat.reduceAdd, Nat.reduceMul, Nat.reduceLeDiff, Nat.reduceSub, Nat.reduceLT, Int.reduceToNat, Int.reduceLT, Int.reduceLE, reduceCtorEq]
    · simp only [q10, go_sem, Int.reduceTMod, Int.reduceTDiv, Int.reduceDiv, Int.reduceMod, Int.reduceAdd, Int.reduceSub, Int.reduceMul, Int.reduceNeg, Int.reducePow, Int.reduceEq, ↓reduceIte, Nat.reduceEqDiff, Nat.reduceAdd, Nat.reduceMul, Nat.reduceLeDiff, Nat.reduceSub, Nat.reduceLT, Int.reduceToNat, Int.reduceLT, Int.reduceLE, reduceCtorEq]
    · simp only [q9, go_sem, Int.reduceTMod, Int.reduceTDiv, Int.reduceDiv, Int.reduceMod, Int.reduceAdd, Int.reduceSub, Int.reduceMul, Int.reduceNeg, Int.reducePow, Int.reduceEq, ↓reduceIte, Nat.reduceEqDiff, Nat.reduceAdd, Nat.reduceMul, Nat.reduceLeDiff, Nat.reduceSub, Nat.reduceLT, Int.reduceToNat, Int.reduceLT, Int.reduceLE, reduceCtorEq]
    · simp only [q0, go_sem, Int.reduceTMod, Int.reduceTDiv, Int.reduceDiv, Int.reduceMod, Int.reduceAdd, Int.reduceSub, Int.reduceMul, Int.reduceNeg, Int.reducePow, Int.reduceEq, ↓reduceIte, Nat.reduceEqDiff, Nat.reduceAdd, Nat.reduceMul, Nat.reduceLeDiff, Nat.reduceSub, Nat.reduceLT, Int.reduceToNat, Int.reduceLT, Int.reduceLE, reduceCtorEq]
    · simp only [go_sem, Int.reduceTMod, Int.reduceTDiv, Int.reduceDiv, Int.reduceMod, Int.reduceAdd, Int.reduceSub, Int.reduceMul, Int.reduceNeg, Int.reducePow, Int.reduceEq, ↓reduceIte, Nat.reduceEqDiff, Nat.reduceAdd, Nat.reduceMul, Nat.reduceLeDiff, Nat.reduceSub, Nat.reduceLT, Int.reduceToNat, Int.reduceLT, Int.reduceLE, reduceCtorEq]
  · obtain ⟨e, M, N⟩ := s
    obtain ⟨q11, q10, q9, q0, q3, qm, qn⟩ := hs
    simp only at q11 q10 q9 q0 q3 qm qn
    subst qm qn
    have c2 : ((ls.length : Int) < (ls.length : Int)) = False := eq_false (by omega)
    rw [List.take_length] at q3
    try simp only [r45_3, r45_9, l45_0, q11, q10, q3, c2, go_sem, Int.reduceTMod, Int.reduceTDiv, Int.reduceDiv, Int.reduceMod, Int.reduceAdd, Int.reduceSub, Int.reduceMul, Int.reduceNeg, Int.reducePow, Int.reduceEq, ↓reduceIte, Nat.reduceEqDiff, Nat.reduceAdd, Nat.reduceMul, Nat.reduceLeDiff, Nat.reduceSub, Nat.reduceLT, Int.reduceToNat, Int.reduceLT, Int.reduceLE, reduceCtorEq]
    repeat' ((first | refine FK_split (fun h_ => ?_) (fun h_ => ?_) | refine GK_split (fun h_ => ?_) (fun h_ => ?_) | refine ite_both (fun h_ => ?_) (fun h_ => ?_)) <;> (try simp only [decide_eq_true_eq, decide_eq_false_iff_not, Bool.not_true, Bool.not_false, Bool.not_eq_true', Bool.not_eq_false', Bool.not_eq_eq_eq_not, Decidable.not_not] at h_) <;> (try simp only [r45_3, r45_9, l45_0, q11, q10, q3, c2, h_, go_sem, Int.reduceTMod, Int.reduceTDiv, Int.reduceDiv, Int.reduceMod, Int.reduceAdd, Int.reduceSub, Int.reduceMul, Int.reduceNeg, Int.reducePow, Int.reduceEq, ↓reduceIte, Nat.reduceEqDiff, Nat.reduceAdd, Nat.reduceMul, Nat.reduceLeDiff, Nat.reduceSub, Nat.reduceLT, Int.reduceToNat, Int.reduceLT, Int.reduceLE, reduceCtorEq]))
    refine RK_callk ?_
    refine (w_Grow (k := ls.flatten.length) (by omega)).mono ?_
    rintro r1 m1 n1 ⟨hn1, hg⟩
    obtain ⟨M1, hM1⟩ : ∃ M1, M1 = unfrz M N m1 := ⟨_, rfl⟩
    rw [← hM1, show max N n1 = n1 by omega]
    have hf1 : ∀ id, id < N → M1 id = M id := fun id hid => by rw [hM1, unfrz_at, if_pos hid]
    have hg1 : ∀ id, N ≤ id → M1 id = m1 id := fun id hid => by rw [hM1, unfrz_at, if_neg (by omega)]
    have hG : GL N M1 n1 r1 [] := by
      rcases hg with ⟨_, h⟩ | ⟨_, id, cs', h1, h2, h3, h4⟩
      · exact Or.inl ⟨h, rfl⟩
      · refine Or.inr ⟨id, cs', h1, h2, h3, by rw [hg1 id h2]; exact h4, ?_⟩
        rw [rd_of (show M1 id = some ⟨cs', true⟩ by rw [hg1 id h2]; exact h4)]
        simp [rdB]
    clear hM1 hg
    try simp only [r45_9, r45_10, q0, go_sem, Int.reduceTMod, Int.reduceTDiv, Int.reduceDiv, Int.reduceMod, Int.reduceAdd, Int.reduceSub, Int.reduceMul, Int.reduceNeg, Int.reducePow, Int.reduceEq, ↓reduceIte, Nat.reduceEqDiff, Nat.reduceAdd, Nat.reduceMul, Nat.reduceLeDiff, Nat.reduceSub, Nat.reduceLT, Int.reduceToNat, Int.reduceLT, Int.reduceLE, reduceCtorEq]
    repeat' ((first | refine FK_split (fun h_ => ?_) (fun h_ => ?_) | refine GK_split (fun h_ => ?_) (fun h_ => ?_) | refine ite_both (fun h_ => ?_) (fun h_ => ?_)) <;> (try simp only [decide_eq_true_eq, decide_eq_false_iff_not, Bool.not_true, Bool.not_false, Bool.not_eq_true', Bool.not_eq_false', Bool.not_eq_eq_eq_not, Decidable.not_not] at h_) <;> (try simp only [r45_9, r45_10, q0, h_, go_sem, Int.reduceTMod, Int.reduceTDiv, Int.reduceDiv, Int.reduceMod, Int.reduceAdd, Int.reduceSub, Int.reduceMul, Int.reduceNeg, Int.reducePow, Int.reduceEq, ↓reduceIte, Nat.reduceEqDiff, Nat.reduceAdd, Nat.reduceMul, Nat.reduceLeDiff, Nat.reduceSub, Nat.reduceLT, Int.reduceToNat, Int.reduceLT, Int.reduceLE, reduceCtorEq]))
    refine XK_iter (inv := fun i s => s.e 27 = RI i ∧ s.e 26 = RI ls.length ∧ s.e 25 = .one (.sl b 0 ls.length (some ls.length) 1) ∧ N ≤ s.n ∧ (∀ id, id < N → s.m id = M id) ∧ GL N s.m s.n (s.e 6) (ls.take i).flatten) ls.length
      (fun L2 _ => ⟨fun i hi s hs next => ?_, fun s hs => ?_⟩) 0 (by omega) _ ⟨?_, ?_, ?_, ?_, ?_, ?_⟩
    · obtain ⟨e2, M2, N2⟩ := s
      obtain ⟨p27, p26, p25, pn, pm, pg⟩ := hs
      simp only at p27 p26 p25 pn pm pg
      have hp : ls[i]? = some ls[i] := List.getElem?_eq_getElem hi
      obtain ⟨c, hc, hr⟩ := hl.get hp
      have hsn := flat_snoc hp
      have hle := flat_le ls (i + 1)
      rw [hsn, List.length_append] at hle
      generalize ls[i] = p at *
      have c2 : ((i : Int) < (ls.length : Int)) = True := eq_true (by omega)
      have c3 : (0 ≤ (i : Int)) = True := eq_true (by omega)
      have c7 : IntKind.i64.wrap ((i : Int) + 1) = ((i + 1 : Nat) : Int) := wr_nat (by omega)
      have hb2 : M2 b = some ⟨cs, ow⟩ := by rw [pm b hbn]; exact hb
      try simp only [r45_0, r45_1, r45_2, r45_3, r45_4, r45_5, r45_6, r45_7, r45_8, r45_9, r45_10, r45_11, r45_12, r45_13, r45_14, r45_15, c45, F45, l45_1, p27, p26, p25, c2, c3, hb2, hc, Int.toNat_natCast, Nat.mul_one, Nat.zero_add, go_sem, Int.reduceTMod, Int.reduceTDiv, Int.reduceDiv, Int.reduceMod, Int.reduceAdd, Int.reduceSub, Int.reduceMul, Int.reduceNeg, Int.reducePow, Int.reduceEq, ↓reduceIte, Nat.reduceEqDiff, Nat.reduceAdd, Nat.reduceMul, Nat.reduceLeDiff, Nat.reduceSub, Nat.reduceLT, Int.reduceToNat, Int.reduceLT, Int.reduceLE, reduceCtorEq]
      repeat' ((first | refine FK_split (fun h_ => ?_) (fun h_ => ?_) | refine GK_split (fun h_ => ?_) (fun h_ => ?_) | refine ite_both (fun h_ => ?_) (fun h_ => ?_)) <;> (try simp only [decide_eq_true_eq, decide_eq_false_iff_not, Bool.not_true, Bool.not_false, Bool.not_eq_true', Bool.not_eq_false', Bool.not_eq_eq_eq_not, Decidable.not_not] at h_) <;> (try simp only [r45_0, r45_1, r45_2, r45_3, r45_4, r45_5, r45_6, r45_7, r45_8, r45_9, r45_10, r45_11, r45_12, r45_13, r45_14, r45_15, c45, F45, l45_1, p27, p26, p25, c2, c3, hb2, hc, Int.toNat_natCast, Nat.mul_one, Nat.zero_add, h_, go_sem, Int.reduceTMod, Int.reduceTDiv, Int.reduceDiv, Int.reduceMod, Int.reduceAdd, Int.reduceSub, Int.reduceMul, Int.reduceNeg, Int.reducePow, Int.reduceEq, ↓reduceIte, Nat.reduceEqDiff, Nat.reduceAdd, Nat.reduceMul, Nat.reduceLeDiff, Nat.reduceSub, Nat.reduceLT, Int.reduceToNat, Int.reduceLT, Int.reduceLE, reduceCtorEq]))
      refine K_catG pg (Nat.le_refl _) (fun _ _ _ => rfl) (hr.keep pn pm) (by omega) pn ?_
      intro r' m' n' h1 h2 h3
      try simp only [r45_0, r45_1, r45_2, r45_3, r45_4, r45_5, r45_6, r45_7, r45_8, r45_9, r45_10, r45_11, r45_12, r45_13, r45_14, r45_15, c45, F45, p27, c7, go_sem, Int.reduceTMod, Int.reduceTDiv, Int.reduceDiv, Int.reduceMod, Int.reduceAdd, Int.reduceSub, Int.reduceMul, Int.reduceNeg, Int.reducePow, Int.reduceEq, ↓reduceIte, Nat.reduceEqDiff, Nat.reduceAdd, Nat.reduceMul, Nat.reduceLeDiff, Nat.reduceSub, Nat.reduceLT, Int.reduceToNat, Int.reduceLT, Int.reduceLE, reduceCtorEq]
      repeat' ((first | refine FK_split (fun h_ => ?_) (fun h_ => ?_) | refine GK_split (fun h_ => ?_) (fun h_ => ?_) | refine ite_both (fun h_ => ?_) (fun h_ => ?_)) <;> (try simp only [decide_eq_true_eq, decide_eq_false_iff_not, Bool.not_true, Bool.not_false, Bool.not_eq_true', Bool.not_eq_false', Bool.not_eq_eq_eq_not, Decidable.not_not] at h_) <;> (try simp only [r45_0, r45_1, r45_2, r45_3, r45_4, r45_5, r45_6, r45_7, r45_8, r45_9, r45_10, r45_11, r45_12, r45_13, r45_14, r45_15, c45, F45, p27, c7, h_, go_sem, Int.reduceTMod, Int.reduceTDiv, Int.reduceDiv, Int.reduceMod, Int.reduceAdd, Int.reduceSub, Int.reduceMul, Int.reduceNeg, Int.reducePow, Int.reduceEq, ↓reduceIte, Nat.reduceEqDiff, Nat.reduceAdd, Nat.reduceMul, Nat.reduceLeDiff, Nat.reduceSub, Nat.reduceLT, Int.reduceToNat, Int.reduceLT, Int.reduceLE, reduceCtorEq]))
      refine next _ ⟨?_, ?_, ?_, ?_, ?_, ?_⟩
      · simp only [go_sem, Int.reduceTMod, Int.reduceTDiv, Int.reduceDiv, Int.reduceMod, Int.reduceAdd, Int.reduceSub, Int.reduceMul, Int.reduceNeg, Int.reducePow, Int.reduceEq, ↓reduceIte, Nat.reduceEqDiff, Nat.reduceAdd, Nat.reduceMul, Nat.reduceLeDiff, Nat.reduceSub, Nat.reduceLT, Int.reduceToNat, Int.reduceLT, Int.reduceLE, reduceCtorEq]
      · simp only [p26, go_sem, Int.reduceTMod, Int.reduceTDiv, Int.reduceDiv, Int.reduceMod, Int.reduceAdd, Int.reduceSub, Int.reduceMul, Int.reduceNeg, Int.reducePow, Int.reduceEq, ↓reduceIte, Nat.reduceEqDiff, Nat.reduceAdd, Nat.reduceMul, Nat.reduceLeDiff, Nat.reduceSub, Nat.reduceLT, Int.reduceToNat, Int.reduceLT, Int.reduceLE, reduceCtorEq]
      · simp only [p25, go_sem, Int.reduceTMod, Int.reduceTDiv, Int.reduceDiv, Int.reduceMod, Int.reduceAdd, Int.reduceSub, Int.reduceMul, Int.reduceNeg, Int.reducePow, Int.reduceEq, ↓reduceIte, Nat.reduceEqDiff, Nat.reduceAdd, Nat.reduceMul, Nat.reduceLeDiff, Nat.reduceSub, Nat.reduceLT, Int.reduceToNat, Int.reduceLT, Int.reduceLE, reduceCtorEq]
      · simp only; omega
      · intro id hid
        simp only
        rw [h3 id (by omega) (fun h => by have := pg.sidge h; omega)]
        exact pm id hid
      · simp only [go_sem, Int.reduceTMod, Int.reduceTDiv, Int.reduceDiv, Int.reduceMod, Int.reduceAdd, Int.reduceSub, Int.reduceMul, Int.reduceNeg, Int.reducePow, Int.reduceEq, ↓reduceIte, Nat.reduceEqDiff, Nat.reduceAdd, Nat.reduceMul, Nat.reduceLeDiff, Nat.reduceSub, Nat.reduceLT, Int.reduceToNat, Int.reduceLT, Int.reduceLE, reduceCtorEq]
        rw [hsn]
        exact h2
    · obtain ⟨e2, M2, N2⟩ := s
      obtain ⟨p27, p26, p25, pn, pm, pg⟩ := hs
      simp only at p27 p26 p25 pn pm pg
      have c2 : ((ls.length : Int) < (ls.length : Int)) = False := eq_false (by omega)
      rw [List.take_length] at pg
      try simp only [r45_0, r45_1, r45_2, r45_3, r45_4, r45_5, r45_6, r45_7, r45_8, r45_9, r45_10, r45_11, r45_12, r45_13, r45_14, r45_15, c45, F45, l45_1, p27, p26, c2, go_sem, Int.reduceTMod, Int.reduceTDiv, Int.reduceDiv, Int.reduceMod, Int.reduceAdd, Int.reduceSub, Int.reduceMul, Int.reduceNeg, Int.reducePow, Int.reduceEq, ↓reduceIte, Nat.reduceEqDiff, Nat.reduceAdd, Nat.reduceMul, Nat.reduceLeDiff, Nat.reduceSub, Nat.reduceLT, Int.reduceToNat, Int.reduceLT, Int.reduceLE, reduceCtorEq]
      repeat' ((first | refine FK_split (fun h_ => ?_) (fun h_ => ?_) | refine GK_split (fun h_ => ?_) (fun h_ => ?_) | refine ite_both (fun h_ => ?_) (fun h_ => ?_)) <;> (try simp only [decide_eq_true_eq, decide_eq_false_iff_not, Bool.not_true, Bool.not_false, Bool.not_eq_true', Bool.not_eq_false', Bool.not_eq_eq_eq_not, Decidable.not_not] at h_) <;> (try simp only [r45_0, r45_1, r45_2, r45_3, r45_4, r45_5, r45_6, r45_7, r45_8, r45_9, r45_10, r45_11, r45_12, r45_13, r45_14, r45_15, c45, F45, l45_1, p27, p26, c2, h_, go_sem, Int.reduceTMod, Int.reduceTDiv, Int.reduceDiv, Int.reduceMod, Int.reduceAdd, Int.reduceSub, Int.reduceMul, Int.reduceNeg, Int.reducePow, Int.reduceEq, ↓reduceIte, Nat.reduceEqDiff, Nat.reduceAdd, Nat.reduceMul, Nat.reduceLeDiff, Nat.reduceSub, Nat.reduceLT, Int.reduceToNat, Int.reduceLT, Int.reduceLE, reduceCtorEq]))
      exact ⟨pn, pg⟩
    · simp only [go_sem, Int.reduceTMod, Int.reduceTDiv, Int.reduceDiv, Int.reduceMod, Int.reduceAdd, Int.reduceSub, Int.reduceMul, Int.reduceNeg, Int.reducePow, Int.reduceEq, ↓reduceIte, Nat.reduceEqDiff, Nat.reduceAdd, Nat.reduceMul, Nat.reduceLeDiff, Nat.reduceSub, Nat.reduceLT, Int.reduceToNat, Int.reduceLT, Int.reduceLE, reduceCtorEq]
    · simp only [go_sem, Int.reduceTMod, Int.reduceTDiv, Int.reduceDiv, Int.reduceMod, Int.reduceAdd, Int.reduceSub, Int.reduceMul, Int.reduceNeg, Int.reducePow, Int.reduceEq, ↓reduceIte, Nat.reduceEqDiff, Nat.reduceAdd, Nat.reduceMul, Nat.reduceLeDiff, Nat.reduceSub, Nat.reduceLT, Int.reduceToNat, Int.reduceLT, Int.reduceLE, reduceCtorEq]
    · simp only [go_sem, Int.reduceTMod, Int.reduceTDiv, Int.reduceDiv, Int.reduceMod, Int.reduceAdd, Int.reduceSub, Int.reduceMul, Int.reduceNeg, Int.reducePow, Int.reduceEq, ↓reduceIte, Nat.reduceEqDiff, Nat.reduceAdd, Nat.reduceMul, Nat.reduceLeDiff, Nat.reduceSub, Nat.reduceLT, Int.reduceToNat, Int.reduceLT, Int.reduceLE, reduceCtorEq]
    · simp only; omega
    · exact hf1
    · simp only [List.take_zero, List.flatten_nil, go_sem, Int.reduceTMod, Int.reduceTDiv, Int.reduceDiv, Int.reduceMod, Int.reduceAdd, Int.reduceSub, Int.reduceMul, Int.reduceNeg, Int.reducePow, Int.reduceEq, ↓reduceIte, Nat.reduceEqDiff, Nat.reduceAdd, Nat.reduceMul, Nat.reduceLeDiff, Nat.reduceSub, Nat.reduceLT, Int.reduceToNat, Int.reduceLT, Int.reduceLE, reduceCtorEq]
      exact hG
  · simp only [go_sem, Int.reduceTMod, Int.reduceTDiv, Int.reduceDiv, Int.reduceMod, Int.reduceAdd, Int.reduceSub, Int.reduceMul, Int.reduceNeg, Int.reducePow, Int.reduceEq, ↓reduceIte, Nat.reduceEqDiff, Nat.reduceAdd, Nat.reduceMul, Nat.reduceLeDiff, Nat.reduceSub, Nat.reduceLT, Int.reduceToNat, Int.reduceLT, Int.reduceLE, reduceCtorEq]
  · simp only [go_sem, Int.reduceTMod, Int.reduceTDiv, Int.reduceDiv, Int.reduceMod, Int.reduceAdd, Int.reduceSub, Int.reduceMul, Int.reduceNeg, Int.reducePow, Int.reduceEq, ↓reduceIte, Nat.reduceEqDiff, Nat.reduceAdd, Nat.reduceMul, Nat.reduceLeDiff, Nat.reduceSub, Nat.reduceLT, Int.reduceToNat, Int.reduceLT, Int.reduceLE, reduceCtorEq]
  · simp only [go_sem, Int.reduceTMod, Int.reduceTDiv, Int.reduceDiv, Int.reduceMod, Int.reduceAdd, Int.reduceSub, Int.reduceMul, Int.reduceNeg, Int.reducePow, Int.reduceEq, ↓reduceIte, Nat.reduceEqDiff, Nat.reduceAdd, Nat.reduceMul, Nat.reduceLeDiff, Nat.reduceSub, Nat.reduceLT, Int.reduceToNat, Int.reduceLT, Int.reduceLE, reduceCtorEq]
  · simp only [go_sem, Int.reduceTMod, Int.reduceTDiv, Int.reduceDiv, Int.reduceMod, Int.reduceAdd, Int.reduceSub, Int.reduceMul, Int.reduceNeg, Int.reducePow, Int.reduceEq, ↓reduceIte, Nat.reduceEqDiff, Nat.reduceAdd, Nat.reduceMul, Nat.reduceLeDiff, Nat.reduceSub, Nat.reduceLT, Int.reduceToNat, Int.reduceLT, Int.reduceLE, reduceCtorEq]
  · simp only [List.take_zero, List.flatten_nil, List.length_nil, go_sem, Int.reduceTMod, Int.reduceTDiv, Int.reduceDiv, Int.reduceMod, Int.reduceAdd, Int.reduceSub, Int.reduceMul, Int.reduceNeg, Int.reducePow, Int.reduceEq, ↓reduceIte, Nat.reduceEqDiff, Nat.reduceAdd, Nat.reduceMul, Nat.reduceLeDiff, Nat.reduceSub, Nat.reduceLT, Int.reduceToNat, Int.reduceLT, Int.reduceLE, reduceCtorEq]

/- A segment that comes in, one that goes, a point that is put elsewhere. Conditions: those that each theorem names. -/
open Go Go.Proofs
set_option linter.unusedSimpArgs false
set_option linter.unusedVariables false

def capN : Reg → Prop
  | .one (.sl _ _ _ (some _) _) => False
  | _ => True
theorem GL.capN {base : Nat} {m : Mem} {n : Nat} {r : Reg} {l : List Sg} (h : GL base m n r l) : capN r := by
  rcases h with ⟨rfl, _⟩ | ⟨id, cs, rfl, _⟩ <;> trivial
/-- What an edit hands back: the error, or the row. -/
def EdQ (e : Int) (l' : List Sg) (n : Nat) (r' : Reg) (m' : Mem) (n' : Nat) : Prop :=
  ∃ x, r' = .tup [x, RI e] ∧ n ≤ n' ∧ ((e ≠ 0 ∧ x = rnil) ∨ (e = 0 ∧ RSg m' n' x l' ∧ capN x ∧ ∀ j, sid x = some j → n ≤ j))
theorem flat_take (l : List Sg) (k : Nat) : (l.flatMap Sg.cs).take (k * 7) = (l.take k).flatMap Sg.cs := by
  induction l generalizing k with
  | nil => simp
  | cons x l ih =>
    cases k with
    | zero => simp
    | succ k =>
      rw [show (k + 1) * 7 = k * 7 + 1 + 1 + 1 + 1 + 1 + 1 + 1 by omega]
      simp [ih k]
theorem flat_drop (l : List Sg) (k : Nat) : (l.flatMap Sg.cs).drop (k * 7) = (l.drop k).flatMap Sg.cs := by
  induction l generalizing k with
  | nil => simp
  | cons x l ih =>
    cases k with
    | zero => simp
    | succ k =>
      rw [show (k + 1) * 7 = k * 7 + 1 + 1 + 1 + 1 + 1 + 1 + 1 by omega]
      simp [ih k]
theorem sl_take {m : Mem} {n id off a : Nat} {l : List Sg} {cap' : Option Nat} (hid : id < n) (hrd : rd m id off (l.length * 7) = some (l.flatMap Sg.cs)) (ha : a ≤ l.length) :
    RSg m n (.one (.sl id off a cap' 7)) (l.take a) := by
  have hl : (l.take a).length = a := by rw [List.length_take]; omega
  refine Or.inr ⟨id, off, cap', by rw [hl], hid, ?_⟩
  have := rd_sub (a := 0) (q := a * 7) hrd (by omega)
  rw [List.drop_zero, flat_take, Nat.add_zero] at this
  rw [hl]
  exact this
theorem sl_drop {m : Mem} {n id off a : Nat} {l : List Sg} {cap' : Option Nat} (hid : id < n) (hrd : rd m id off (l.length * 7) = some (l.flatMap Sg.cs)) (ha : a ≤ l.length) :
    RSg m n (.one (.sl id (off + a * 7) (l.length - a) cap' 7)) (l.drop a) := by
  have hl : (l.drop a).length = l.length - a := by rw [List.length_drop]
  refine Or.inr ⟨id, off + a * 7, cap', by rw [hl], hid, ?_⟩
  have := rd_sub (a := a * 7) (q := (l.length - a) * 7) hrd (by rw [← Nat.add_mul]; exact Nat.mul_le_mul_right _ (by omega))
  rw [flat_drop, List.take_of_length_le (by rw [flatMap_len Sg.cs 7 cs7, hl]; exact Nat.le_refl _)] at this
  rw [hl]
  exact this

/- A point that is put elsewhere; is what is told the path. Conditions: those that each theorem names. -/
open Go Go.Proofs
set_option linter.unusedSimpArgs false
set_option linter.unusedVariables false

theorem at_in {l : List Sg} {i : Int} (hk : atE l i = 0) : chkP l = 0 ∧ 0 ≤ i ∧ i < l.length := by
  unfold atE at hk
  split at hk
  · split at hk
    · cases hk
    · exact ⟨by assumption, by omega⟩
  · rename_i h; exact absurd hk h
theorem v_is {x w : Reg} {l : List Sg} {e : Int} {m : Mem} {n : Nat} (hx : (e ≠ 0 ∧ x = rnil) ∨ (e = 0 ∧ RSg m n x l)) (he : e = chkP l) (hw : RSg m n w l) (hl : l.length < 4294967296) : callF TA 20 [x, RI e, w] m n = some (RB true) := by
  refine callF_of (Fn_ofK (fn := F20) rfl (by simp [F20]) ?_)
  have vC := v_rCheck hw.frz
  rw [← he] at vC
  rcases hx with ⟨h1, rfl⟩ | ⟨rfl, hx⟩
  · have a1 : lenO rnil = some 0 := rfl
    try simp only [r20_0, r20_1, r20_2, r20_3, r20_4, c20, F20, vC, h1, a1, go_sem, Int.reduceTMod, Int.reduceTDiv, Int.reduceDiv, Int.reduceMod, Int.reduceAdd, Int.reduceSub, Int.reduceMul, Int.reduceNeg, Int.reducePow, Int.reduceEq, ↓reduceIte, Nat.reduceEqDiff, Nat.reduceAdd, Nat.reduceMul, Nat.reduceLeDiff, Nat.reduceSub, Nat.reduceLT, Int.reduceToNat, Int.reduceLT, Int.reduceLE, reduceCtorEq]
    repeat' ((first | refine FK_split (fun h_ => ?_) (fun h_ => ?_) | refine GK_split (fun h_ => ?_) (fun h_ => ?_) | refine ite_both (fun h_ => ?_) (fun h_ => ?_)) <;> (try simp only [decide_eq_true_eq, decide_eq_false_iff_not, Bool.not_true, Bool.not_false, Bool.not_eq_true', Bool.not_eq_false', Bool.not_eq_eq_eq_not, Decidable.not_not] at h_) <;> (try simp only [r20_0, r20_1, r20_2, r20_3, r20_4, c20, F20, vC, h1, a1, h_, go_sem, Int.reduceTMod, Int.reduceTDiv, Int.reduceDiv, Int.reduceMod, Int.reduceAdd, Int.reduceSub, Int.reduceMul, Int.reduceNeg, Int.reducePow, Int.reduceEq, ↓reduceIte, Nat.reduceEqDiff, Nat.reduceAdd, Nat.reduceMul, Nat.reduceLeDiff, Nat.reduceSub, Nat.reduceLT, Int.reduceToNat, Int.reduceLT, Int.reduceLE, reduceCtorEq]))
  · have vS := v_same06 hx.frz hw.frz hl
    try simp only [r20_0, r20_1, r20_2, r20_3, r20_4, c20, F20, vC, vS, go_sem, Int.reduceTMod, Int.reduceTDiv, Int.reduceDiv, Int.reduceMod, Int.reduceAdd, Int.reduceSub, Int.reduceMul, Int.reduceNeg, Int.reducePow, Int.reduceEq, ↓reduceIte, Nat.reduceEqDiff, Nat.reduceAdd, Nat.reduceMul, Nat.reduceLeDiff, Nat.reduceSub, Nat.reduceLT, Int.reduceToNat, Int.reduceLT, Int.reduceLE, reduceCtorEq]
    repeat' ((first | refine FK_split (fun h_ => ?_) (fun h_ => ?_) | refine GK_split (fun h_ => ?_) (fun h_ => ?_) | refine ite_both (fun h_ => ?_) (fun h_ => ?_)) <;> (try simp only [decide_eq_true_eq, decide_eq_false_iff_not, Bool.not_true, Bool.not_false, Bool.not_eq_true', Bool.not_eq_false', Bool.not_eq_eq_eq_not, Decidable.not_not] at h_) <;> (try simp only [r20_0, r20_1, r20_2, r20_3, r20_4, c20, F20, vC, vS, h_, go_sem, Int.reduceTMod, Int.reduceTDiv, Int.reduceDiv, Int.reduceMod, Int.reduceAdd, Int.reduceSub, Int.reduceMul, Int.reduceNeg, Int.reducePow, Int.reduceEq, ↓reduceIte, Nat.reduceEqDiff, Nat.reduceAdd, Nat.reduceMul, Nat.reduceLeDiff, Nat.reduceSub, Nat.reduceLT, Int.reduceToNat, Int.reduceLT, Int.reduceLE, reduceCtorEq]))

/- path.Split walked. Conditions: those that each theorem names. -/
open Go Go.Proofs
set_option linter.unusedSimpArgs false
set_option linter.unusedVariables false

theorem NeedM {m : Mem} {n : Nat} {o : Bool} (k : Int) (hm : m 0 = some ⟨needC, o⟩) : Fn TA 15 [RI k] m n (fun r _ _ => r = RI (need k)) := by
  refine Fn_ofK (fn := F15) rfl (by simp [F15]) ?_
  by_cases h1 : k < 1
  · have e : need k = 0 := by unfold need; rw [if_neg (by omega), if_neg (by omega), if_neg (by omega)]
    try simp only [r15_0, r15_1, r15_2, r15_3, c15, F15, h1, e, go_sem, Int.reduceTMod, Int.reduceTDiv, Int.reduceDiv, Int.reduceMod, Int.reduceAdd, Int.reduceSub, Int.reduceMul, Int.reduceNeg, Int.reducePow, Int.reduceEq, ↓reduceIte, Nat.reduceEqDiff, Nat.reduceAdd, Nat.reduceMul, Nat.reduceLeDiff, Nat.reduceSub, Nat.reduceLT, Int.reduceToNat, Int.reduceLT, Int.reduceLE, reduceCtorEq]
    repeat' ((first | refine FK_split (fun h_ => ?_) (fun h_ => ?_) | refine GK_split (fun h_ => ?_) (fun h_ => ?_) | refine ite_both (fun h_ => ?_) (fun h_ => ?_)) <;> (try simp only [decide_eq_true_eq, decide_eq_false_iff_not, Bool.not_true, Bool.not_false, Bool.not_eq_true', Bool.not_eq_false', Bool.not_eq_eq_eq_not, Decidable.not_not] at h_) <;> (try simp only [r15_0, r15_1, r15_2, r15_3, c15, F15, h1, e, h_, go_sem, Int.reduceTMod, Int.reduceTDiv, Int.reduceDiv, Int.reduceMod, Int.reduceAdd, Int.reduceSub, Int.reduceMul, Int.reduceNeg, Int.reducePow, Int.reduceEq, ↓reduceIte, Nat.reduceEqDiff, Nat.reduceAdd, Nat.reduceMul, Nat.reduceLeDiff, Nat.reduceSub, Nat.reduceLT, Int.reduceToNat, Int.reduceLT, Int.reduceLE, reduceCtorEq]))
  · by_cases h2 : 5 < k
    · have e : need k = 0 := by unfold need; rw [if_neg (by omega), if_neg (by omega), if_neg (by omega)]
      try simp only [r15_0, r15_1, r15_2, r15_3, c15, F15, h1, h2, e, go_sem, Int.reduceTMod, Int.reduceTDiv, Int.reduceDiv, Int.reduceMod, Int.reduceAdd, Int.reduceSub, Int.reduceMul, Int.reduceNeg, Int.reducePow, Int.reduceEq, ↓reduceIte, Nat.reduceEqDiff, Nat.reduceAdd, Nat.reduceMul, Nat.reduceLeDiff, Nat.reduceSub, Nat.reduceLT, Int.reduceToNat, Int.reduceLT, Int.reduceLE, reduceCtorEq]
      repeat' ((first | refine FK_split (fun h_ => ?_) (fun h_ => ?_) | refine GK_split (fun h_ => ?_) (fun h_ => ?_) | refine ite_both (fun h_ => ?_) (fun h_ => ?_)) <;> (try simp only [decide_eq_true_eq, decide_eq_false_iff_not, Bool.not_true, Bool.not_false, Bool.not_eq_true', Bool.not_eq_false', Bool.not_eq_eq_eq_not, Decidable.not_not] at h_) <;> (try simp only [r15_0, r15_1, r15_2, r15_3, c15, F15, h1, h2, e, h_, go_sem, Int.reduceTMod, Int.reduceTDiv, Int.reduceDiv, Int.reduceMod, Int.reduceAdd, Int.reduceSub, Int.reduceMul, Int.reduceNeg, Int.reducePow, Int.reduceEq, ↓reduceIte, Nat.reduceEqDiff, Nat.reduceAdd, Nat.reduceMul, Nat.reduceLeDiff, Nat.reduceSub, Nat.reduceLT, Int.reduceToNat, Int.reduceLT, Int.reduceLE, reduceCtorEq]))
    · rcases kinds h1 h2 with rfl | rfl | rfl | rfl | rfl
      all_goals
        try simp only [r15_0, r15_1, r15_2, r15_3, c15, F15, hm, ng1, ng2, ng3, ng4, ng5, need1, need2, need3, need4, need5, Int.reduceLT, Int.reduceLE, Int.reduceToNat, Nat.reduceMul, Nat.zero_add, go_sem, Int.reduceTMod, Int.reduceTDiv, Int.reduceDiv, Int.reduceMod, Int.reduceAdd, Int.reduceSub, Int.reduceMul, Int.reduceNeg, Int.reducePow, Int.reduceEq, ↓reduceIte, Nat.reduceEqDiff, Nat.reduceAdd, Nat.reduceMul, Nat.reduceLeDiff, Nat.reduceSub, Nat.reduceLT, Int.reduceToNat, Int.reduceLT, Int.reduceLE, reduceCtorEq]
        repeat' ((first | refine FK_split (fun h_ => ?_) (fun h_ => ?_) | refine GK_split (fun h_ => ?_) (fun h_ => ?_) | refine ite_both (fun h_ => ?_) (fun h_ => ?_)) <;> (try simp only [decide_eq_true_eq, decide_eq_false_iff_not, Bool.not_true, Bool.not_false, Bool.not_eq_true', Bool.not_eq_false', Bool.not_eq_eq_eq_not, Decidable.not_not] at h_) <;> (try simp only [r15_0, r15_1, r15_2, r15_3, c15, F15, hm, ng1, ng2, ng3, ng4, ng5, need1, need2, need3, need4, need5, Int.reduceLT, Int.reduceLE, Int.reduceToNat, Nat.reduceMul, Nat.zero_add, h_, go_sem, Int.reduceTMod, Int.reduceTDiv, Int.reduceDiv, Int.reduceMod, Int.reduceAdd, Int.reduceSub, Int.reduceMul, Int.reduceNeg, Int.reducePow, Int.reduceEq, ↓reduceIte, Nat.reduceEqDiff, Nat.reduceAdd, Nat.reduceMul, Nat.reduceLeDiff, Nat.reduceSub, Nat.reduceLT, Int.reduceToNat, Int.reduceLT, Int.reduceLE, reduceCtorEq]))
def noE (l : List Sg) (i : Int) : Int := if atE l i = 0 then 33 else atE l i
theorem w_SplitNo {r : Reg} {l : List Sg} {m : Mem} {n : Nat} {o : Bool} (i : Int) (hr : RSg m n r l) (h0 : m 0 = some ⟨needC, o⟩) (hn : 0 < n)
    (h : atE l i ≠ 0 ∨ atE l i = 0 ∧ ∃ s, l[i.toNat]? = some s ∧ (s.k = 1 ∨ s.k = 5)) : Fn TA 18 [r, RI i] m n (fun r' m' n' => r' = .tup [rnil, RI (noE l i)] ∧ n' = n) := by
  refine Fn_ofK (fn := F18) rfl (by simp [F18]) ?_
  have hlen := hr.len
  have vA := v_at (o := false) i hr.frz (by rw [frz_at, h0]; rfl) hn
  rcases h with hk | ⟨hk, s, hs, h15⟩
  · have e : noE l i = atE l i := if_neg hk
    try simp only [r18_0, r18_1, r18_2, r18_3, r18_4, r18_5, r18_6, r18_7, r18_8, r18_9, r18_10, r18_11, r18_12, r18_13, r18_14, r18_15, r18_16, c18, F18, vA, hk, e, go_sem, Int.reduceTMod, Int.reduceTDiv, Int.reduceDiv, Int.reduceMod, Int.reduceAdd, Int.reduceSub, Int.reduceMul, Int.reduceNeg, Int.reducePow, Int.reduceEq, ↓reduceIte, Nat.reduceEqDiff, Nat.reduceAdd, Nat.reduceMul, Nat.reduceLeDiff, Nat.reduceSub, Nat.reduceLT, Int.reduceToNat, Int.reduceLT, Int.reduceLE, reduceCtorEq]
    repeat' ((first | refine FK_split (fun h_ => ?_) (fun h_ => ?_) | refine GK_split (fun h_ => ?_) (fun h_ => ?_) | refine ite_both (fun h_ => ?_) (fun h_ => ?_)) <;> (try simp only [decide_eq_true_eq, decide_eq_false_iff_not, Bool.not_true, Bool.not_false, Bool.not_eq_true', Bool.not_eq_false', Bool.not_eq_eq_eq_not, Decidable.not_not] at h_) <;> (try simp only [r18_0, r18_1, r18_2, r18_3, r18_4, r18_5, r18_6, r18_7, r18_8, r18_9, r18_10, r18_11, r18_12, r18_13, r18_14, r18_15, r18_16, c18, F18, vA, hk, e, h_, go_sem, Int.reduceTMod, Int.reduceTDiv, Int.reduceDiv, Int.reduceMod, Int.reduceAdd, Int.reduceSub, Int.reduceMul, Int.reduceNeg, Int.reducePow, Int.reduceEq, ↓reduceIte, Nat.reduceEqDiff, Nat.reduceAdd, Nat.reduceMul, Nat.reduceLeDiff, Nat.reduceSub, Nat.reduceLT, Int.reduceToNat, Int.reduceLT, Int.reduceLE, reduceCtorEq]))
  · have e : noE l i = 33 := if_pos hk
    obtain ⟨_, hi, hil⟩ := at_in hk
    obtain ⟨a, rfl⟩ : ∃ a : Nat, i = a := ⟨i.toNat, by omega⟩
    rw [Int.toNat_natCast] at hs
    obtain ⟨id, off, cap, rfl, hid, hrd⟩ := hr.at cs7 hs
    obtain ⟨b, hb1, hb2⟩ := rd_cell hrd (a := 0) (c := I s.k) rfl
    rw [Nat.add_zero] at hb2
    have c2 : ((a : Int) < (l.length : Int)) = True := eq_true (by omega)
    have c3 : (0 ≤ (a : Int)) = True := eq_true (by omega)
    rcases h15 with h1 | h1
    · skip
      try simp only [r18_0, r18_1, r18_2, r18_3, r18_4, r18_5, r18_6, r18_7, r18_8, r18_9, r18_10, r18_11, r18_12, r18_13, r18_14, r18_15, r18_16, c18, F18, vA, hk, e, c2, c3, hb1, hb2, h1, Int.toNat_natCast, go_sem, Int.reduceTMod, Int.reduceTDiv, Int.reduceDiv, Int.reduceMod, Int.reduceAdd, Int.reduceSub, Int.reduceMul, Int.reduceNeg, Int.reducePow, Int.reduceEq, ↓reduceIte, Nat.reduceEqDiff, Nat.reduceAdd, Nat.reduceMul, Nat.reduceLeDiff, Nat.reduceSub, Nat.reduceLT, Int.reduceToNat, Int.reduceLT, Int.reduceLE, reduceCtorEq]
      repeat' ((first | refine FK_split (fun h_ => ?_) (fun h_ => ?_) | refine GK_split (fun h_ => ?_) (fun h_ => ?_) | refine ite_both (fun h_ => ?_) (fun h_ => ?_)) <;> (try simp only [decide_eq_true_eq, decide_eq_false_iff_not, Bool.not_true, Bool.not_false, Bool.not_eq_true', Bool.not_eq_false', Bool.not_eq_eq_eq_not, Decidable.not_not] at h_) <;> (try simp only [r18_0, r18_1, r18_2, r18_3, r18_4, r18_5, r18_6, r18_7, r18_8, r18_9, r18_10, r18_11, r18_12, r18_13, r18_14, r18_15, r18_16, c18, F18, vA, hk, e, c2, c3, hb1, hb2, h1, Int.toNat_natCast, h_, go_sem, Int.reduceTMod, Int.reduceTDiv, Int.reduceDiv, Int.reduceMod, Int.reduceAdd, Int.reduceSub, Int.reduceMul, Int.reduceNeg, Int.reducePow, Int.reduceEq, ↓reduceIte, Nat.reduceEqDiff, Nat.reduceAdd, Nat.reduceMul, Nat.reduceLeDiff, Nat.reduceSub, Nat.reduceLT, Int.reduceToNat, Int.reduceLT, Int.reduceLE, reduceCtorEq]))
    · skip
      try simp only [r18_0, r18_1, r18_2, r18_3, r18_4, r18_5, r18_6, r18_7, r18_8, r18_9, r18_10, r18_11, r18_12, r18_13, r18_14, r18_15, r18_16, c18, F18, vA, hk, e, c2, c3, hb1, hb2, h1, Int.toNat_natCast, go_sem, Int.reduceTMod, Int.reduceTDiv, Int.reduceDiv, Int.reduceMod, Int.reduceAdd, Int.reduceSub, Int.reduceMul, Int.reduceNeg, Int.reducePow, Int.reduceEq, ↓reduceIte, Nat.reduceEqDiff, Nat.reduceAdd, Nat.reduceMul, Nat.reduceLeDiff, Nat.reduceSub, Nat.reduceLT, Int.reduceToNat, Int.reduceLT, Int.reduceLE, reduceCtorEq]
      repeat' ((first | refine FK_split (fun h_ => ?_) (fun h_ => ?_) | refine GK_split (fun h_ => ?_) (fun h_ => ?_) | refine ite_both (fun h_ => ?_) (fun h_ => ?_)) <;> (try simp only [decide_eq_true_eq, decide_eq_false_iff_not, Bool.not_true, Bool.not_false, Bool.not_eq_true', Bool.not_eq_false', Bool.not_eq_eq_eq_not, Decidable.not_not] at h_) <;> (try simp only [r18_0, r18_1, r18_2, r18_3, r18_4, r18_5, r18_6, r18_7, r18_8, r18_9, r18_10, r18_11, r18_12, r18_13, r18_14, r18_15, r18_16, c18, F18, vA, hk, e, c2, c3, hb1, hb2, h1, Int.toNat_natCast, h_, go_sem, Int.reduceTMod, Int.reduceTDiv, Int.reduceDiv, Int.reduceMod, Int.reduceAdd, Int.reduceSub, Int.reduceMul, Int.reduceNeg, Int.reducePow, Int.reduceEq, ↓reduceIte, Nat.reduceEqDiff, Nat.reduceAdd, Nat.reduceMul, Nat.reduceLeDiff, Nat.reduceSub, Nat.reduceLT, Int.reduceToNat, Int.reduceLT, Int.reduceLE, reduceCtorEq]))
theorem two_row {m : Mem} {n b : Nat} {s t : Sg} {o : Bool} (hbn : b < n) (hb : m b = some ⟨s.cs ++ t.cs, o⟩) : RSg m n (.one (.sl b 0 2 (some 2) 7)) [s, t] := by
  refine Or.inr ⟨b, 0, some 2, rfl, hbn, ?_⟩
  rw [rd_of hb]
  rfl
theorem split_tail {id off i n N : Nat} {l : List Sg} {A B : Sg} {e : Nat → Reg} {M : Mem} (hid : id < n) (hn : n + 4 ≤ N) (hrd : rd M id off (l.length * 7) = some (l.flatMap Sg.cs)) (hi : i < l.length) (hl : l.length < 1000000)
    (e0 : e 0 = .one (.sl id off l.length none 7)) (e1 : e 1 = RI i) (e9 : e 9 = .one (.ptr (n + 2) 0)) (e10 : e 10 = .one (.ptr (n + 3) 0)) (hA : M (n + 2) = some ⟨A.cs, true⟩) (hB : M (n + 3) = some ⟨B.cs, true⟩) :
    RK TA r18_16 e M N (Kt.seq .ret (Kt.fin [.tmp 4, .tmp 5] (EdQ 0 (l.take i ++ [A, B] ++ l.drop (i + 1)) n))) := by
  have hal : i ≤ l.length := by omega
  have hal1 : i + 1 ≤ l.length := by omega
  have w1 : IntKind.i64.wrap ((i : Int) + 1) = ((i + 1 : Nat) : Int) := wr_nat (by omega)
  have q1 := sl_take (cap' := none) (show id < N by omega) hrd hal
  have q3 := sl_drop (cap' := none) (show id < N by omega) hrd hal1
  have hil : l.take i ++ [A, B] ++ l.drop (i + 1) = [l.take i, [A, B], l.drop (i + 1)].flatten := by simp
  have hfl : [l.take i, [A, B], l.drop (i + 1)].flatten.length = l.length + 1 := by simp; omega
  rw [hil]
  try simp only [r18_16, e0, e1, e9, e10, hA, hB, rd_of hA, rd_of hB, w1, bnds_hi hal, bnds_lo hal1, Option.map_none, Nat.zero_mul, Nat.sub_zero, List.replicate, go_sem, Int.reduceTMod, Int.reduceTDiv, Int.reduceDiv, Int.reduceMod, Int.reduceAdd, Int.reduceSub, Int.reduceMul, Int.reduceNeg, Int.reducePow, Int.reduceEq, ↓reduceIte, Nat.reduceEqDiff, Nat.reduceAdd, Nat.reduceMul, Nat.reduceLeDiff, Nat.reduceSub, Nat.reduceLT, Int.reduceToNat, Int.reduceLT, Int.reduceLE, reduceCtorEq]
  repeat' ((first | refine FK_split (fun h_ => ?_) (fun h_ => ?_) | refine GK_split (fun h_ => ?_) (fun h_ => ?_) | refine ite_both (fun h_ => ?_) (fun h_ => ?_)) <;> (try simp only [decide_eq_true_eq, decide_eq_false_iff_not, Bool.not_true, Bool.not_false, Bool.not_eq_true', Bool.not_eq_false', Bool.not_eq_eq_eq_not, Decidable.not_not] at h_) <;> (try simp only [r18_16, e0, e1, e9, e10, hA, hB, rd_of hA, rd_of hB, w1, bnds_hi hal, bnds_lo hal1, Option.map_none, Nat.zero_mul, Nat.sub_zero, List.replicate, h_, go_sem, Int.reduceTMod, Int.reduceTDiv, Int.reduceDiv, Int.reduceMod, Int.reduceAdd, Int.reduceSub, Int.reduceMul, Int.reduceNeg, Int.reducePow, Int.reduceEq, ↓reduceIte, Nat.reduceEqDiff, Nat.reduceAdd, Nat.reduceMul, Nat.reduceLeDiff, Nat.reduceSub, Nat.reduceLT, Int.reduceToNat, Int.reduceLT, Int.reduceLE, reduceCtorEq]))
  refine RK_callk ?_
  show Fn TA _ [.one (.sl (N + 1) 0 3 (some 3) 1)] _ _ _
  refine (w_Concat (cs := [.sl id off i none 7, .sl N 0 2 (some 2) 7, .sl id (off + (i + 1) * 7) (l.length - (i + 1)) none 7]) (ls := [l.take i, [A, B], l.drop (i + 1)]) (b := N + 1) (ow := false) (by rw [frz_at, upd_same]; rfl) (by omega) ⟨?_, ?_, ?_, trivial⟩ (by omega) (by simp)).mono ?_
  · exact (q1.keep (by omega) (fun id hid => by rw [upd_ne _ _ (by omega), upd_ne _ _ (by omega)])).frz
  · exact two_row (o := false) (by omega) (by rw [frz_at, upd_ne _ _ (by omega), upd_same]; rfl)
  · exact (q3.keep (by omega) (fun id hid => by rw [upd_ne _ _ (by omega), upd_ne _ _ (by omega)])).frz
  rintro x m1 n1 ⟨hn1, hG⟩
  have hG1 : GL (N + 2) (unfrz (upd (upd M N (some ⟨A.cs ++ B.cs, true⟩)) (N + 1) (some ⟨[.sl id off i none 7, .sl N 0 2 (some 2) 7, .sl id (off + (i + 1) * 7) (l.length - (i + 1)) none 7], true⟩)) (N + 2) m1) n1 x [l.take i, [A, B], l.drop (i + 1)].flatten := hG.keep (Nat.le_refl _) (fun id h1 h2 => by rw [unfrz_at, if_neg (by omega)])
  rw [show max (N + 2) n1 = n1 by omega]
  try simp only [r18_16, go_sem, Int.reduceTMod, Int.reduceTDiv, Int.reduceDiv, Int.reduceMod, Int.reduceAdd, Int.reduceSub, Int.reduceMul, Int.reduceNeg, Int.reducePow, Int.reduceEq, ↓reduceIte, Nat.reduceEqDiff, Nat.reduceAdd, Nat.reduceMul, Nat.reduceLeDiff, Nat.reduceSub, Nat.reduceLT, Int.reduceToNat, Int.reduceLT, Int.reduceLE, reduceCtorEq]
  repeat' ((first | refine FK_split (fun h_ => ?_) (fun h_ => ?_) | refine GK_split (fun h_ => ?_) (fun h_ => ?_) | refine ite_both (fun h_ => ?_) (fun h_ => ?_)) <;> (try simp only [decide_eq_true_eq, decide_eq_false_iff_not, Bool.not_true, Bool.not_false, Bool.not_eq_true', Bool.not_eq_false', Bool.not_eq_eq_eq_not, Decidable.not_not] at h_) <;> (try simp only [r18_16, h_, go_sem, Int.reduceTMod, Int.reduceTDiv, Int.reduceDiv, Int.reduceMod, Int.reduceAdd, Int.reduceSub, Int.reduceMul, Int.reduceNeg, Int.reducePow, Int.reduceEq, ↓reduceIte, Nat.reduceEqDiff, Nat.reduceAdd, Nat.reduceMul, Nat.reduceLeDiff, Nat.reduceSub, Nat.reduceLT, Int.reduceToNat, Int.reduceLT, Int.reduceLE, reduceCtorEq]))
  exact ⟨x, rfl, by omega, Or.inr ⟨rfl, hG1.rl, hG1.capN, fun j hj => by have := hG1.sidge hj; omega⟩⟩

/- path.Split walked to its end. Conditions: those that each theorem names. -/
open Go Go.Proofs
set_option linter.unusedSimpArgs false
set_option linter.unusedVariables false

set_option maxHeartbeats 8000000 in
theorem w_Split {r : Reg} {l : List Sg} {q s : Sg} {fr : Pt} {i : Nat} {m : Mem} {n : Nat} {o : Bool} (hr : RSg m n r l) (hc : capN r) (h0 : m 0 = some ⟨needC, o⟩) (hn0 : 0 < n) (hl : l.length < 4096) (hat0 : atE l i = 0) (hs : l[i]? = some s) (hq : l[i - 1]? = some q) (hi : 0 < i)
    (hn : 1 ≤ need q.k) (hfe : ptJ q ((need q.k).toNat - 1) = fr) (hk : s.k = 2 ∨ s.k = 3 ∨ s.k = 4) (hfr : inP fr = true) (hin : (s.pts.take (need s.k).toNat).all inP = true) :
    Fn TA 18 [r, RI i] m n (EdQ 0 (splL l i fr s) n) := by
  refine Fn_ofK (fn := F18) rfl (by simp [F18]) ?_
  have hil : i < l.length := (List.getElem?_eq_some_iff.1 hs).1
  have hil1 : i - 1 < l.length := by omega
  have hlen := hr.len
  have vA := v_at (o := false) i hr.frz (by rw [frz_at, h0]; rfl) hn0
  have c2 : ((i : Int) < (l.length : Int)) = True := eq_true (by omega)
  have c3 : (0 ≤ (i : Int)) = True := eq_true (by omega)
  have c4 : ((l.length : Int) = 4096) = False := eq_false (by omega)
  obtain ⟨id, off, cap, rfl, hid, hrdl⟩ := hr.resolve_left (fun h => by rw [h.2] at hil; simp at hil)
  obtain rfl : cap = none := by
    cases cap with
    | none => rfl
    | some c => exact hc.elim
  have hrd := rd_at cs7 hrdl hs
  have hrdq := rd_at cs7 hrdl hq
  obtain ⟨b, hb1, hb2⟩ := rd_cell hrd (a := 0) (c := I s.k) rfl
  obtain ⟨b', hb3, hb4⟩ := rd_cell hrdq (a := 0) (c := I q.k) rfl
  rw [hb1] at hb3
  cases hb3
  rw [Nat.add_zero] at hb2 hb4
  have n0 := na_0 hid
  have k1 : (s.k = 1) = False := eq_false (by omega)
  have k5 : (s.k = 5) = False := eq_false (by omega)
  have hnbq := need_bd q.k
  have w1 : IntKind.i64.wrap ((i : Int) - 1) = ((i - 1 : Nat) : Int) := (wr_eq (by omega) (by omega)).trans (by omega)
  obtain ⟨jn, hjn⟩ : ∃ jn, jn = (need q.k).toNat - 1 := ⟨_, rfl⟩
  have w2 : IntKind.i64.wrap (need q.k - 1) = (jn : Int) := (wr_eq (by omega) (by omega)).trans (by omega)
  have hj3 : jn < 3 := by omega
  have hpt := rd_sub (a := 1 + jn * 2) (q := 2) hrdq (by omega)
  have hpt2 : (q.cs.drop (1 + jn * 2)).take 2 = [I (ptJ q jn).x, I (ptJ q jn).y] := by
    have h3 : jn = 0 ∨ jn = 1 ∨ jn = 2 := by omega
    rcases h3 with h3 | h3 | h3 <;> rw [h3] <;> rfl
  rw [hpt2, show off + (i - 1) * 7 + (1 + jn * 2) = off + ((i - 1) * 7 + 1) + jn * 2 by omega] at hpt
  rw [← hjn] at hfe
  rw [hfe] at hpt
  have d2 : (((i - 1 : Nat) : Int) < (l.length : Int)) = True := eq_true (by omega)
  have d3 : (0 ≤ ((i - 1 : Nat) : Int)) = True := eq_true (by omega)
  have d4 : (0 ≤ (jn : Int)) = True := eq_true (by omega)
  have d5 : ((jn : Int) < 3) = True := eq_true (by omega)
  have d6 : ((jn : Int) < ((3 : Nat) : Int)) = True := eq_true (by omega)
  have hrdK : ∀ M' : Mem, (∀ j, j < n → M' j = m j) → rd M' id off (l.length * 7) = some (l.flatMap Sg.cs) := fun M' h => by rw [rd_same (h id hid)]; exact hrdl
  have body : ∀ (e : Nat → Reg) (M : Mem), e 0 = .one (.sl id off l.length none 7) → e 1 = RI i → e 7 = .one (.ptr n 0) → M n = some ⟨s.cs, true⟩ → (∀ j, j < n → M j = m j) →
      XK TA (.pureg 9 15 [(.t 52)] [44, 45, 46, 47, 48, 49, 50, 51, 52, 53, 54, 55, 56, 57, 58] [] r18_9) ⟨e, M, n + 1⟩ (Kt.seq (.seq (.reg r18_10) (.seq (.seq (.reg r18_11) (.cond (.t 63) (.reg r18_12) (.seq (.preg 2 35 [(.t 7)] [] r18_13) (.seq (.reg r18_14) (.reg r18_15))))) (.seq (.reg r18_16) .ret))) (Kt.fin [.tmp 4, .tmp 5] (EdQ 0 (splL l i fr s) n))) := by
    intro e M e0 e1 e7 hMn hold
    have hMi : M id = some b := by rw [hold id hid]; exact hb1
    have hz : M 0 = some ⟨needC, o⟩ := by rw [hold 0 hn0]; exact h0
    have hMp : rd M id (off + ((i - 1) * 7 + 1) + jn * 2) 2 = some [I fr.x, I fr.y] := by rw [rd_same (hold id hid)]; exact hpt
    have n1 : (id = n + 1) = False := eq_false (by omega)
    refine XK_pu (fun e' => e' 52 = RI q.k) ?_ (fun e' he => ⟨?_, ?_⟩)
    · skip
      try simp only [r18_9, e0, e1, w1, d2, d3, hMi, hb4, Int.toNat_natCast, go_sem, Int.reduceTMod, Int.reduceTDiv, Int.reduceDiv, Int.reduceMod, Int.reduceAdd, Int.reduceSub, Int.reduceMul, Int.reduceNeg, Int.reducePow, Int.reduceEq, ↓reduceIte, Nat.reduceEqDiff, Nat.reduceAdd, Nat.reduceMul, Nat.reduceLeDiff, Nat.reduceSub, Nat.reduceLT, Int.reduceToNat, Int.reduceLT, Int.reduceLE, reduceCtorEq]
      repeat' ((first | refine FK_split (fun h_ => ?_) (fun h_ => ?_) | refine GK_split (fun h_ => ?_) (fun h_ => ?_) | refine ite_both (fun h_ => ?_) (fun h_ => ?_)) <;> (try simp only [decide_eq_true_eq, decide_eq_false_iff_not, Bool.not_true, Bool.not_false, Bool.not_eq_true', Bool.not_eq_false', Bool.not_eq_eq_eq_not, Decidable.not_not] at h_) <;> (try simp only [r18_9, e0, e1, w1, d2, d3, hMi, hb4, Int.toNat_natCast, h_, go_sem, Int.reduceTMod, Int.reduceTDiv, Int.reduceDiv, Int.reduceMod, Int.reduceAdd, Int.reduceSub, Int.reduceMul, Int.reduceNeg, Int.reducePow, Int.reduceEq, ↓reduceIte, Nat.reduceEqDiff, Nat.reduceAdd, Nat.reduceMul, Nat.reduceLeDiff, Nat.reduceSub, Nat.reduceLT, Int.reduceToNat, Int.reduceLT, Int.reduceLE, reduceCtorEq]))
    · show (safeR M (e' 52) && true) = true
      rw [he]
      rfl
    show Fn TA _ [e' 52] _ _ _
    rw [he]
    refine (NeedM (o := false) q.k (by show frz M 0 = _; rw [frz_at, hz]; rfl)).mono ?_
    rintro _ _ _ rfl
    refine ⟨rfl, ?_⟩
    try simp only [XK_ureg, setOp, r18_9, e0, e1, w1, w2, d2, d3, d4, d5, d6, n1, hMi, hb4, hMp, Int.toNat_natCast, go_sem, Int.reduceTMod, Int.reduceTDiv, Int.reduceDiv, Int.reduceMod, Int.reduceAdd, Int.reduceSub, Int.reduceMul, Int.reduceNeg, Int.reducePow, Int.reduceEq, ↓reduceIte, Nat.reduceEqDiff, Nat.reduceAdd, Nat.reduceMul, Nat.reduceLeDiff, Nat.reduceSub, Nat.reduceLT, Int.reduceToNat, Int.reduceLT, Int.reduceLE, reduceCtorEq]
    repeat' ((first | refine FK_split (fun h_ => ?_) (fun h_ => ?_) | refine GK_split (fun h_ => ?_) (fun h_ => ?_) | refine ite_both (fun h_ => ?_) (fun h_ => ?_)) <;> (try simp only [decide_eq_true_eq, decide_eq_false_iff_not, Bool.not_true, Bool.not_false, Bool.not_eq_true', Bool.not_eq_false', Bool.not_eq_eq_eq_not, Decidable.not_not] at h_) <;> (try simp only [XK_ureg, setOp, r18_9, e0, e1, w1, w2, d2, d3, d4, d5, d6, n1, hMi, hb4, hMp, Int.toNat_natCast, h_, go_sem, Int.reduceTMod, Int.reduceTDiv, Int.reduceDiv, Int.reduceMod, Int.reduceAdd, Int.reduceSub, Int.reduceMul, Int.reduceNeg, Int.reducePow, Int.reduceEq, ↓reduceIte, Nat.reduceEqDiff, Nat.reduceAdd, Nat.reduceMul, Nat.reduceLeDiff, Nat.reduceSub, Nat.reduceLT, Int.reduceToNat, Int.reduceLT, Int.reduceLE, reduceCtorEq]))
    obtain ⟨M1, hM1⟩ : ∃ M1, M1 = upd (upd M (n + 1) (some ⟨[I 0, I 0], true⟩)) (n + 1) (some ⟨fr.cs, true⟩) := ⟨_, rfl⟩
    rw [← hM1]
    have hfb : M1 (n + 1) = some ⟨fr.cs, true⟩ := by rw [hM1, upd_same]
    have hsb : M1 n = some ⟨s.cs, true⟩ := by rw [hM1, upd_ne _ _ (by omega), upd_ne _ _ (by omega)]; exact hMn
    have hold1 : ∀ j, j < n → M1 j = m j := fun j hj => by rw [hM1, upd_ne _ _ (by omega), upd_ne _ _ (by omega)]; exact hold j hj
    have hz1 : M1 0 = some ⟨needC, o⟩ := by rw [hold1 0 hn0]; exact h0
    clear hM1
    by_cases hk2 : s.k = 2
    · have hsa : inP s.a = true := by
        rw [hk2] at hin
        simpa [need, Sg.pts] using hin
      have vM : callF TA 43 [.agg [I fr.x, I fr.y], .agg [I s.a.x, I s.a.y]] (fun _ => none) 1 = some (.agg [I (Cu.mid fr s.a).x, I (Cu.mid fr s.a).y]) := callF_of (Cu.Mid fr s.a hfr hsa _ _)
      have eA : spA fr s = ⟨2, Cu.mid fr s.a, s.b, s.c⟩ := by unfold spA; rw [if_pos hk2, hk2]
      have eB : spB fr s = s := if_pos hk2
      try simp only [r18_10, r18_11, r18_12, e7, hfb, hsb, rd_of hfb, rd_of hsb, hk2, vM, go_sem, Int.reduceTMod, Int.reduceTDiv, Int.reduceDiv, Int.reduceMod, Int.reduceAdd, Int.reduceSub, Int.reduceMul, Int.reduceNeg, Int.reducePow, Int.reduceEq, ↓reduceIte, Nat.reduceEqDiff, Nat.reduceAdd, Nat.reduceMul, Nat.reduceLeDiff, Nat.reduceSub, Nat.reduceLT, Int.reduceToNat, Int.reduceLT, Int.reduceLE, reduceCtorEq]
      repeat' ((first | refine FK_split (fun h_ => ?_) (fun h_ => ?_) | refine GK_split (fun h_ => ?_) (fun h_ => ?_) | refine ite_both (fun h_ => ?_) (fun h_ => ?_)) <;> (try simp only [decide_eq_true_eq, decide_eq_false_iff_not, Bool.not_true, Bool.not_false, Bool.not_eq_true', Bool.not_eq_false', Bool.not_eq_eq_eq_not, Decidable.not_not] at h_) <;> (try simp only [r18_10, r18_11, r18_12, e7, hfb, hsb, rd_of hfb, rd_of hsb, hk2, vM, h_, go_sem, Int.reduceTMod, Int.reduceTDiv, Int.reduceDiv, Int.reduceMod, Int.reduceAdd, Int.reduceSub, Int.reduceMul, Int.reduceNeg, Int.reducePow, Int.reduceEq, ↓reduceIte, Nat.reduceEqDiff, Nat.reduceAdd, Nat.reduceMul, Nat.reduceLeDiff, Nat.reduceSub, Nat.reduceLT, Int.reduceToNat, Int.reduceLT, Int.reduceLE, reduceCtorEq]))
      refine split_tail (n := n) (off := off) hid (by omega) ?_ hil (by omega) ?_ ?_ ?_ ?_ ?_ ?_
      · refine hrdK _ (fun j hj => ?_)
        simp only [nadd, na_eq, na_0 hj, na_0 (show j < n + 2 by omega), na_0 (show j < n + 3 by omega), go_sem, Int.reduceTMod, Int.reduceTDiv, Int.reduceDiv, Int.reduceMod, Int.reduceAdd, Int.reduceSub, Int.reduceMul, Int.reduceNeg, Int.reducePow, Int.reduceEq, ↓reduceIte, Nat.reduceEqDiff, Nat.reduceAdd, Nat.reduceMul, Nat.reduceLeDiff, Nat.reduceSub, Nat.reduceLT, Int.reduceToNat, Int.reduceLT, Int.reduceLE, reduceCtorEq]
        exact hold1 j hj
      · simp only [e0, go_sem, Int.reduceTMod, Int.reduceTDiv, Int.reduceDiv, Int.reduceMod, Int.reduceAdd, Int.reduceSub, Int.reduceMul, Int.reduceNeg, Int.reducePow, Int.reduceEq, ↓reduceIte, Nat.reduceEqDiff, Nat.reduceAdd, Nat.reduceMul, Nat.reduceLeDiff, Nat.reduceSub, Nat.reduceLT, Int.reduceToNat, Int.reduceLT, Int.reduceLE, reduceCtorEq]
      · simp only [e1, go_sem, Int.reduceTMod, Int.reduceTDiv, Int.reduceDiv, Int.reduceMod, Int.reduceAdd, Int.reduceSub, Int.reduceMul, Int.reduceNeg, Int.reducePow, Int.reduceEq, ↓reduceIte, Nat.reduceEqDiff, Nat.reduceAdd, Nat.reduceMul, Nat.reduceLeDiff, Nat.reduceSub, Nat.reduceLT, Int.reduceToNat, Int.reduceLT, Int.reduceLE, reduceCtorEq]
      · simp only [go_sem, Int.reduceTMod, Int.reduceTDiv, Int.reduceDiv, Int.reduceMod, Int.reduceAdd, Int.reduceSub, Int.reduceMul, Int.reduceNeg, Int.reducePow, Int.reduceEq, ↓reduceIte, Nat.reduceEqDiff, Nat.reduceAdd, Nat.reduceMul, Nat.reduceLeDiff, Nat.reduceSub, Nat.reduceLT, Int.reduceToNat, Int.reduceLT, Int.reduceLE, reduceCtorEq]
      · simp only [go_sem, Int.reduceTMod, Int.reduceTDiv, Int.reduceDiv, Int.reduceMod, Int.reduceAdd, Int.reduceSub, Int.reduceMul, Int.reduceNeg, Int.reducePow, Int.reduceEq, ↓reduceIte, Nat.reduceEqDiff, Nat.reduceAdd, Nat.reduceMul, Nat.reduceLeDiff, Nat.reduceSub, Nat.reduceLT, Int.reduceToNat, Int.reduceLT, Int.reduceLE, reduceCtorEq]
      · rw [eA]; simp only [nadd, na_eq, go_sem, Int.reduceTMod, Int.reduceTDiv, Int.reduceDiv, Int.reduceMod, Int.reduceAdd, Int.reduceSub, Int.reduceMul, Int.reduceNeg, Int.reducePow, Int.reduceEq, ↓reduceIte, Nat.reduceEqDiff, Nat.reduceAdd, Nat.reduceMul, Nat.reduceLeDiff, Nat.reduceSub, Nat.reduceLT, Int.reduceToNat, Int.reduceLT, Int.reduceLE, reduceCtorEq]
      · rw [eB]; simp only [nadd, na_eq, Sg.cs, hk2, go_sem, Int.reduceTMod, Int.reduceTDiv, Int.reduceDiv, Int.reduceMod, Int.reduceAdd, Int.reduceSub, Int.reduceMul, Int.reduceNeg, Int.reducePow, Int.reduceEq, ↓reduceIte, Nat.reduceEqDiff, Nat.reduceAdd, Nat.reduceMul, Nat.reduceLeDiff, Nat.reduceSub, Nat.reduceLT, Int.reduceToNat, Int.reduceLT, Int.reduceLE, reduceCtorEq]
    have hk34 : s.k = 3 ∨ s.k = 4 := by omega
    have hnb := need_bd s.k
    have body2 : ∀ (e : Nat → Reg) (M : Mem), e 0 = .one (.sl id off l.length none 7) → e 1 = RI i → e 7 = .one (.ptr n 0) → e 8 = .one (.ptr (n + 1) 0) → e 9 = .one (.ptr (n + 2) 0) → e 10 = .one (.ptr (n + 3) 0) →
        M n = some ⟨s.cs, true⟩ → M (n + 1) = some ⟨fr.cs, true⟩ → M (n + 2) = some ⟨s.cs, true⟩ → M (n + 3) = some ⟨s.cs, true⟩ → (∀ j, j < n → M j = m j) →
        XK TA (.preg 2 35 [(.t 7)] [] r18_13) ⟨e, M, n + 4⟩ (Kt.seq (.seq (.reg r18_14) (.reg r18_15)) (Kt.seq (.seq (.reg r18_16) .ret) (Kt.fin [.tmp 4, .tmp 5] (EdQ 0 (splL l i fr s) n)))) := by
      intro e M e0 e1 e7 e8 e9 e10 m0 m1 m2 m3 hold2
      have hz2 : M 0 = some ⟨needC, o⟩ := by rw [hold2 0 hn0]; exact h0
      refine XK_preg ?_
      show Fn TA _ [e 7] (frz M) (n + 4) _
      rw [e7]
      refine (w_points (off := 0) (k := s.k) (o := false) (b := ⟨s.cs, false⟩) (by rw [frz_at, hz2]; rfl) (by rw [frz_at, m0]; rfl) rfl (by simp)).mono ?_
      rintro r1 m9 n9 ⟨rfl, _, e91⟩
      refine ⟨Or.inr e91, ?_⟩
      have hxs : ∀ M' : Mem, M' n = some ⟨s.cs, true⟩ → RPt M' (n + 5) (.one (.sl n (0 + 1) (need s.k).toNat (some 3) 2)) (s.pts.take (need s.k).toNat) := fun M' h => by
        have hl : (s.pts.take (need s.k).toNat).length = (need s.k).toNat := by rw [List.length_take]; have : s.pts.length = 3 := rfl; omega
        refine Or.inr ⟨n, 0 + 1, some 3, by rw [hl], by omega, ?_⟩
        rw [hl, rd_of h]
        obtain ⟨k, a, b, c⟩ := s
        simp only at hk34
        rcases hk34 with rfl | rfl <;> rfl
      try simp only [r18_13, setOp, List.set_cons_succ, List.set_cons_zero, e8, m1, rd_of m1, go_sem, Int.reduceTMod, Int.reduceTDiv, Int.reduceDiv, Int.reduceMod, Int.reduceAdd, Int.reduceSub, Int.reduceMul, Int.reduceNeg, Int.reducePow, Int.reduceEq, ↓reduceIte, Nat.reduceEqDiff, Nat.reduceAdd, Nat.reduceMul, Nat.reduceLeDiff, Nat.reduceSub, Nat.reduceLT, Int.reduceToNat, Int.reduceLT, Int.reduceLE, reduceCtorEq]
      repeat' ((first | refine FK_split (fun h_ => ?_) (fun h_ => ?_) | refine GK_split (fun h_ => ?_) (fun h_ => ?_) | refine ite_both (fun h_ => ?_) (fun h_ => ?_)) <;> (try simp only [decide_eq_true_eq, decide_eq_false_iff_not, Bool.not_true, Bool.not_false, Bool.not_eq_true', Bool.not_eq_false', Bool.not_eq_eq_eq_not, Decidable.not_not] at h_) <;> (try simp only [r18_13, setOp, List.set_cons_succ, List.set_cons_zero, e8, m1, rd_of m1, h_, go_sem, Int.reduceTMod, Int.reduceTDiv, Int.reduceDiv, Int.reduceMod, Int.reduceAdd, Int.reduceSub, Int.reduceMul, Int.reduceNeg, Int.reducePow, Int.reduceEq, ↓reduceIte, Nat.reduceEqDiff, Nat.reduceAdd, Nat.reduceMul, Nat.reduceLeDiff, Nat.reduceSub, Nat.reduceLT, Int.reduceToNat, Int.reduceLT, Int.reduceLE, reduceCtorEq]))
      refine K_appD (xs := s.pts.take (need s.k).toNat) (nx := n + 5) (l := [fr]) (n0 := n + 5) (base := n + 4) (m0 := upd M (n + 4) (some ⟨fr.cs, true⟩)) (Or.inr ⟨n + 4, some 1, rfl, Nat.le_refl _, Nat.lt_succ_self _, upd_same _ _ _, Or.inr rfl⟩) (Nat.le_refl _) (fun _ _ => rfl)
        (hxs _ (by rw [upd_ne _ _ (by omega)]; exact m0)) ?_ ?_ (by omega) ?_
      · obtain ⟨k, a, b, c⟩ := s
        simp only at hk34
        rcases hk34 with rfl | rfl <;> exact List.cons_ne_nil _ _
      · rw [List.length_take]
        have : s.pts.length = 3 := rfl
        simp only [List.length_cons, List.length_nil]
        omega
      intro c' M1 ho hf hs
      rw [List.singleton_append, ← cv_pts hk34] at ho
      have hM4 : ∀ j, j < n + 4 → M1 j = M j := fun j hj => by rw [hf j (by omega) (by simp only [sid, ne_eq, Option.some.injEq]; omega), upd_ne _ _ (by omega)]
      have hv := cv_in hk34 hfr hin
      have eA : spA fr s = cvS s (cvOf fr s).fst := if_neg hk2
      have eB : spB fr s = cvS s (cvOf fr s).snd := if_neg hk2
      have w3 : s.k = 3 → cvOf fr s = .quad fr s.a s.b := fun h => if_pos h
      have w4 : s.k = 4 → cvOf fr s = .cub fr s.a s.b s.c := fun h => if_neg (by omega)
      generalize cvOf fr s = v at *
      try simp only [r18_13, go_sem, Int.reduceTMod, Int.reduceTDiv, Int.reduceDiv, Int.reduceMod, Int.reduceAdd, Int.reduceSub, Int.reduceMul, Int.reduceNeg, Int.reducePow, Int.reduceEq, ↓reduceIte, Nat.reduceEqDiff, Nat.reduceAdd, Nat.reduceMul, Nat.reduceLeDiff, Nat.reduceSub, Nat.reduceLT, Int.reduceToNat, Int.reduceLT, Int.reduceLE, reduceCtorEq]
      repeat' ((first | refine FK_split (fun h_ => ?_) (fun h_ => ?_) | refine GK_split (fun h_ => ?_) (fun h_ => ?_) | refine ite_both (fun h_ => ?_) (fun h_ => ?_)) <;> (try simp only [decide_eq_true_eq, decide_eq_false_iff_not, Bool.not_true, Bool.not_false, Bool.not_eq_true', Bool.not_eq_false', Bool.not_eq_eq_eq_not, Decidable.not_not] at h_) <;> (try simp only [r18_13, h_, go_sem, Int.reduceTMod, Int.reduceTDiv, Int.reduceDiv, Int.reduceMod, Int.reduceAdd, Int.reduceSub, Int.reduceMul, Int.reduceNeg, Int.reducePow, Int.reduceEq, ↓reduceIte, Nat.reduceEqDiff, Nat.reduceAdd, Nat.reduceMul, Nat.reduceLeDiff, Nat.reduceSub, Nat.reduceLT, Int.reduceToNat, Int.reduceLT, Int.reduceLE, reduceCtorEq]))
      refine RK_callk ?_
      show Fn TA _ [.one c'] (frz M1) (n + 6) _
      refine (Cu.Halves45 v (.one c') (frz M1) (n + 6) (pt_rp ho.rl.frz) hv).mono ?_
      rintro _ m5 n5 ⟨ra, rb, rfl, hn5, _, hA, hB⟩
      rw [show max (n + 6) n5 = n5 by omega]
      have keep : ∀ id, id < n + 4 → unfrz M1 (n + 6) m5 id = M id := fun id hid => by rw [unfrz_at, if_pos (by omega)]; exact hM4 id hid
      have m2' : unfrz M1 (n + 6) m5 (n + 2) = some ⟨s.cs, true⟩ := by rw [keep _ (by omega)]; exact m2
      have m3' : unfrz M1 (n + 6) m5 (n + 3) = some ⟨s.cs, true⟩ := by rw [keep _ (by omega)]; exact m3
      have hA' := (Cu.Sn.unfrz (m := M1) hA.sn)
      have hB' := (Cu.Sn.unfrz (m := M1) hB.sn)
      generalize unfrz M1 (n + 6) m5 = M5 at *
      have p0 : 0 < v.fst.pts.length := by rcases Cu.pts_len v.fst with h | h <;> omega
      have p1 : 0 < v.snd.pts.length := by rcases Cu.pts_len v.snd with h | h <;> omega
      obtain ⟨ia, ca, rfl, _, _, _, qa⟩ := hA
      obtain ⟨ib, cb, rfl, _, _, _, qb⟩ := hB
      have la := hA'.2 ia rfl
      have lb := hB'.2 ib rfl
      have hra : rd M5 ia 0 (v.fst.pts.length * 2) = some (Cu.encP v.fst.pts) := by
        obtain ⟨_, _, _, e, _, h⟩ := hA'.1.resolve_left (fun h => by omega)
        injection e with e
        injection e with e1 e2 e3 e4
        rw [e1, e2]; exact h
      have hrb : rd M5 ib 0 (v.snd.pts.length * 2) = some (Cu.encP v.snd.pts) := by
        obtain ⟨_, _, _, e, _, h⟩ := hB'.1.resolve_left (fun h => by omega)
        injection e with e
        injection e with e1 e2 e3 e4
        rw [e1, e2]; exact h
      have bn : ∀ (k : Nat) (c : Option Nat), 1 ≤ k → (c = none ∨ c = some k) → ∃ c', bnds k c (some (RI 1)) none none = some (1, k, c') := fun k c h1 h => by
        have i1 : inR (RI 1) k = some 1 := inR_nat (i := 1) (y := k) h1
        rcases h with rfl | rfl
        · exact ⟨none, by simp [bnds, bMax, bHigh, bLow, i1]⟩
        · exact ⟨some (k - 1), by simp [bnds, bMax, bHigh, bLow, i1]⟩
      obtain ⟨ca', bA⟩ := bn _ ca p0 qa
      obtain ⟨cb', bB⟩ := bn _ cb p1 qb
      have b3 : bnds 3 (some 3) none none none = some (0, 3, some 3) := rfl
      have ea2 : (ia = n + 2) = False := eq_false (by omega)
      have eb2 : (ib = n + 2) = False := eq_false (by omega)
      have done : ∀ (e : Nat → Reg) (M6 : Mem), e 0 = .one (.sl id off l.length none 7) → e 1 = RI i → e 9 = .one (.ptr (n + 2) 0) → e 10 = .one (.ptr (n + 3) 0) → M6 (n + 2) = some ⟨(cvS s v.fst).cs, true⟩ → M6 (n + 3) = some ⟨(cvS s v.snd).cs, true⟩ → (∀ j, j < n → M6 j = m j) →
          RK TA r18_16 e M6 n5 (Kt.seq .ret (Kt.fin [.tmp 4, .tmp 5] (EdQ 0 (splL l i fr s) n))) := by
        intro e M6 e0 e1 e9 e10 k2 k3 k4
        have := split_tail (A := cvS s v.fst) (B := cvS s v.snd) (n := n) (off := off) hid (show n + 4 ≤ n5 by omega) (hrdK _ k4) hil (by omega) e0 e1 e9 e10 k2 k3
        unfold splL
        rw [eA, eB]
        exact this
      rcases hk34 with hk3 | hk3
      · obtain rfl := w3 hk3
        have xa := rd_sub (a := 2) (q := 4) hra (by simp [Cu.Cv.fst, Cu.Cv.pts])
        have xb := rd_sub (a := 2) (q := 4) hrb (by simp [Cu.Cv.snd, Cu.Cv.pts])
        have la3 : (Cu.Cv.quad fr s.a s.b).fst.pts.length = 3 := rfl
        have lb3 : (Cu.Cv.quad fr s.a s.b).snd.pts.length = 3 := rfl
        rw [la3] at bA
        rw [lb3] at bB
        have nm : Nat.min 3 2 = 2 := rfl
        simp only [Cu.Cv.fst, Cu.Cv.snd, Cu.Cv.pts, cvS, List.flatMap_cons, List.flatMap_nil, List.cons_append, List.nil_append, List.append_nil, List.drop_succ_cons, List.drop_zero, List.take_succ_cons, List.take_zero, Nat.zero_add] at xa xb done ⊢
        generalize Cu.mid fr s.a = p1 at *
        generalize Cu.mid s.a s.b = p2 at *
        generalize Cu.mid p1 p2 = p3 at *
        try simp only [r18_13, r18_14, r18_15, e0, e1, e9, e10, bA, bB, m2', m3', rd_of m2', rd_of m3', xa, xb, ea2, eb2, newsOf, nm, b3, Option.isSome_none, Option.map_none, List.length_cons, List.length_nil, go_sem, Int.reduceTMod, Int.reduceTDiv, Int.reduceDiv, Int.reduceMod, Int.reduceAdd, Int.reduceSub, Int.reduceMul, Int.reduceNeg, Int.reducePow, Int.reduceEq, ↓reduceIte, Nat.reduceEqDiff, Nat.reduceAdd, Nat.reduceMul, Nat.reduceLeDiff, Nat.reduceSub, Nat.reduceLT, Int.reduceToNat, Int.reduceLT, Int.reduceLE, reduceCtorEq]
        repeat' ((first | refine FK_split (fun h_ => ?_) (fun h_ => ?_) | refine GK_split (fun h_ => ?_) (fun h_ => ?_) | refine ite_both (fun h_ => ?_) (fun h_ => ?_)) <;> (try simp only [decide_eq_true_eq, decide_eq_false_iff_not, Bool.not_true, Bool.not_false, Bool.not_eq_true', Bool.not_eq_false', Bool.not_eq_eq_eq_not, Decidable.not_not] at h_) <;> (try simp only [r18_13, r18_14, r18_15, e0, e1, e9, e10, bA, bB, m2', m3', rd_of m2', rd_of m3', xa, xb, ea2, eb2, newsOf, nm, b3, Option.isSome_none, Option.map_none, List.length_cons, List.length_nil, h_, go_sem, Int.reduceTMod, Int.reduceTDiv, Int.reduceDiv, Int.reduceMod, Int.reduceAdd, Int.reduceSub, Int.reduceMul, Int.reduceNeg, Int.reducePow, Int.reduceEq, ↓reduceIte, Nat.reduceEqDiff, Nat.reduceAdd, Nat.reduceMul, Nat.reduceLeDiff, Nat.reduceSub, Nat.reduceLT, Int.reduceToNat, Int.reduceLT, Int.reduceLE, reduceCtorEq]))
        refine done _ _ ?_ ?_ ?_ ?_ ?_ ?_ ?_
        · simp only [e0, go_sem, Int.reduceTMod, Int.reduceTDiv, Int.reduceDiv, Int.reduceMod, Int.reduceAdd, Int.reduceSub, Int.reduceMul, Int.reduceNeg, Int.reducePow, Int.reduceEq, ↓reduceIte, Nat.reduceEqDiff, Nat.reduceAdd, Nat.reduceMul, Nat.reduceLeDiff, Nat.reduceSub, Nat.reduceLT, Int.reduceToNat, Int.reduceLT, Int.reduceLE, reduceCtorEq]
        · simp only [e1, go_sem, Int.reduceTMod, Int.reduceTDiv, Int.reduceDiv, Int.reduceMod, Int.reduceAdd, Int.reduceSub, Int.reduceMul, Int.reduceNeg, Int.reducePow, Int.reduceEq, ↓reduceIte, Nat.reduceEqDiff, Nat.reduceAdd, Nat.reduceMul, Nat.reduceLeDiff, Nat.reduceSub, Nat.reduceLT, Int.reduceToNat, Int.reduceLT, Int.reduceLE, reduceCtorEq]
        · simp only [e9, go_sem, Int.reduceTMod, Int.reduceTDiv, Int.reduceDiv, Int.reduceMod, Int.reduceAdd, Int.reduceSub, Int.reduceMul, Int.reduceNeg, Int.reducePow, Int.reduceEq, ↓reduceIte, Nat.reduceEqDiff, Nat.reduceAdd, Nat.reduceMul, Nat.reduceLeDiff, Nat.reduceSub, Nat.reduceLT, Int.reduceToNat, Int.reduceLT, Int.reduceLE, reduceCtorEq]
        · simp only [e10, go_sem, Int.reduceTMod, Int.reduceTDiv, Int.reduceDiv, Int.reduceMod, Int.reduceAdd, Int.reduceSub, Int.reduceMul, Int.reduceNeg, Int.reducePow, Int.reduceEq, ↓reduceIte, Nat.reduceEqDiff, Nat.reduceAdd, Nat.reduceMul, Nat.reduceLeDiff, Nat.reduceSub, Nat.reduceLT, Int.reduceToNat, Int.reduceLT, Int.reduceLE, reduceCtorEq]
        · simp only [nadd, na_eq, go_sem, Int.reduceTMod, Int.reduceTDiv, Int.reduceDiv, Int.reduceMod, Int.reduceAdd, Int.reduceSub, Int.reduceMul, Int.reduceNeg, Int.reducePow, Int.reduceEq, ↓reduceIte, Nat.reduceEqDiff, Nat.reduceAdd, Nat.reduceMul, Nat.reduceLeDiff, Nat.reduceSub, Nat.reduceLT, Int.reduceToNat, Int.reduceLT, Int.reduceLE, reduceCtorEq]
        · simp only [nadd, na_eq, go_sem, Int.reduceTMod, Int.reduceTDiv, Int.reduceDiv, Int.reduceMod, Int.reduceAdd, Int.reduceSub, Int.reduceMul, Int.reduceNeg, Int.reducePow, Int.reduceEq, ↓reduceIte, Nat.reduceEqDiff, Nat.reduceAdd, Nat.reduceMul, Nat.reduceLeDiff, Nat.reduceSub, Nat.reduceLT, Int.reduceToNat, Int.reduceLT, Int.reduceLE, reduceCtorEq]
        · intro j hj
          simp only [nadd, na_eq, na_0 (show j < n + 2 by omega), na_0 (show j < n + 3 by omega), go_sem, Int.reduceTMod, Int.reduceTDiv, Int.reduceDiv, Int.reduceMod, Int.reduceAdd, Int.reduceSub, Int.reduceMul, Int.reduceNeg, Int.reducePow, Int.reduceEq, ↓reduceIte, Nat.reduceEqDiff, Nat.reduceAdd, Nat.reduceMul, Nat.reduceLeDiff, Nat.reduceSub, Nat.reduceLT, Int.reduceToNat, Int.reduceLT, Int.reduceLE, reduceCtorEq]
          rw [keep j (by omega)]
          exact hold2 j hj
      · obtain rfl := w4 hk3
        have xa := rd_sub (a := 2) (q := 6) hra (by simp [Cu.Cv.fst, Cu.Cv.pts])
        have xb := rd_sub (a := 2) (q := 6) hrb (by simp [Cu.Cv.snd, Cu.Cv.pts])
        have la4 : (Cu.Cv.cub fr s.a s.b s.c).fst.pts.length = 4 := rfl
        have lb4 : (Cu.Cv.cub fr s.a s.b s.c).snd.pts.length = 4 := rfl
        rw [la4] at bA
        rw [lb4] at bB
        have nm : Nat.min 3 3 = 3 := rfl
        simp only [Cu.Cv.fst, Cu.Cv.snd, Cu.Cv.pts, cvS, List.flatMap_cons, List.flatMap_nil, List.cons_append, List.nil_append, List.append_nil, List.drop_succ_cons, List.drop_zero, List.take_succ_cons, List.take_zero, Nat.zero_add] at xa xb done ⊢
        generalize Cu.mid fr s.a = p1 at *
        generalize Cu.mid s.a s.b = p2 at *
        generalize Cu.mid s.b s.c = p3 at *
        generalize Cu.mid p1 p2 = p4 at *
        generalize Cu.mid p2 p3 = p5 at *
        generalize Cu.mid p4 p5 = p6 at *
        try simp only [r18_13, r18_14, r18_15, e0, e1, e9, e10, bA, bB, m2', m3', rd_of m2', rd_of m3', xa, xb, ea2, eb2, newsOf, nm, b3, Option.isSome_none, Option.map_none, List.length_cons, List.length_nil, go_sem, Int.reduceTMod, Int.reduceTDiv, Int.reduceDiv, Int.reduceMod, Int.reduceAdd, Int.reduceSub, Int.reduceMul, Int.reduceNeg, Int.reducePow, Int.reduceEq, ↓reduceIte, Nat.reduceEqDiff, Nat.reduceAdd, Nat.reduceMul, Nat.reduceLeDiff, Nat.reduceSub, Nat.reduceLT, Int.reduceToNat, Int.reduceLT, Int.reduceLE, reduceCtorEq]
        repeat' ((first | refine FK_split (fun h_ => ?_) (fun h_ => ?_) | refine GK_split (fun h_ => ?_) (fun h_ => ?_) | refine ite_both (fun h_ => ?_) (fun h_ => ?_)) <;> (try simp only [decide_eq_true_eq, decide_eq_false_iff_not, Bool.not_true, Bool.not_false, Bool.not_eq_true', Bool.not_eq_false', Bool.not_eq_eq_eq_not, Decidable.not_not] at h_) <;> (try simp only [r18_13, r18_14, r18_15, e0, e1, e9, e10, bA, bB, m2', m3', rd_of m2', rd_of m3', xa, xb, ea2, eb2, newsOf, nm, b3, Option.isSome_none, Option.map_none, List.length_cons, List.length_nil, h_, go_sem, Int.reduceTMod, Int.reduceTDiv, Int.reduceDiv, Int.reduceMod, Int.reduceAdd, Int.reduceSub, Int.reduceMul, Int.reduceNeg, Int.reducePow, Int.reduceEq, ↓reduceIte, Nat.reduceEqDiff, Nat.reduceAdd, Nat.reduceMul, Nat.reduceLeDiff, Nat.reduceSub, Nat.reduceLT, Int.reduceToNat, Int.reduceLT, Int.reduceLE, reduceCtorEq]))
        refine done _ _ ?_ ?_ ?_ ?_ ?_ ?_ ?_
        · simp only [e0, go_sem, Int.reduceTMod, Int.reduceTDiv, Int.reduceDiv, Int.reduceMod, Int.reduceAdd, Int.reduceSub, Int.reduceMul, Int.reduceNeg, Int.reducePow, Int.reduceEq, ↓reduceIte, Nat.reduceEqDiff, Nat.reduceAdd, Nat.reduceMul, Nat.reduceLeDiff, Nat.reduceSub, Nat.reduceLT, Int.reduceToNat, Int.reduceLT, Int.reduceLE, reduceCtorEq]
        · simp only [e1, go_sem, Int.reduceTMod, Int.reduceTDiv, Int.reduceDiv, Int.reduceMod, Int.reduceAdd, Int.reduceSub, Int.reduceMul, Int.reduceNeg, Int.reducePow, Int.reduceEq, ↓reduceIte, Nat.reduceEqDiff, Nat.reduceAdd, Nat.reduceMul, Nat.reduceLeDiff, Nat.reduceSub, Nat.reduceLT, Int.reduceToNat, Int.reduceLT, Int.reduceLE, reduceCtorEq]
        · simp only [e9, go_sem, Int.reduceTMod, Int.reduceTDiv, Int.reduceDiv, Int.reduceMod, Int.reduceAdd, Int.reduceSub, Int.reduceMul, Int.reduceNeg, Int.reducePow, Int.reduceEq, ↓reduceIte, Nat.reduceEqDiff, Nat.reduceAdd, Nat.reduceMul, Nat.reduceLeDiff, Nat.reduceSub, Nat.reduceLT, Int.reduceToNat, Int.reduceLT, Int.reduceLE, reduceCtorEq]
        · simp only [e10, go_sem, Int.reduceTMod, Int.reduceTDiv, Int.reduceDiv, Int.reduceMod, Int.reduceAdd, Int.reduceSub, Int.reduceMul, Int.reduceNeg, Int.reducePow, Int.reduceEq, ↓reduceIte, Nat.reduceEqDiff, Nat.reduceAdd, Nat.reduceMul, Nat.reduceLeDiff, Nat.reduceSub, Nat.reduceLT, Int.reduceToNat, Int.reduceLT, Int.reduceLE, reduceCtorEq]
        · simp only [nadd, na_eq, go_sem, Int.reduceTMod, Int.reduceTDiv, Int.reduceDiv, Int.reduceMod, Int.reduceAdd, Int.reduceSub, Int.reduceMul, Int.reduceNeg, Int.reducePow, Int.reduceEq, ↓reduceIte, Nat.reduceEqDiff, Nat.reduceAdd, Nat.reduceMul, Nat.reduceLeDiff, Nat.reduceSub, Nat.reduceLT, Int.reduceToNat, Int.reduceLT, Int.reduceLE, reduceCtorEq]
        · simp only [nadd, na_eq, go_sem, Int.reduceTMod, Int.reduceTDiv, Int.reduceDiv, Int.reduceMod, Int.reduceAdd, Int.reduceSub, Int.reduceMul, Int.reduceNeg, Int.reducePow, Int.reduceEq, ↓reduceIte, Nat.reduceEqDiff, Nat.reduceAdd, Nat.reduceMul, Nat.reduceLeDiff, Nat.reduceSub, Nat.reduceLT, Int.reduceToNat, Int.reduceLT, Int.reduceLE, reduceCtorEq]
        · intro j hj
          simp only [nadd, na_eq, na_0 (show j < n + 2 by omega), na_0 (show j < n + 3 by omega), go_sem, Int.reduceTMod, Int.reduceTDiv, Int.reduceDiv, Int.reduceMod, Int.reduceAdd, Int.reduceSub, Int.reduceMul, Int.reduceNeg, Int.reducePow, Int.reduceEq, ↓reduceIte, Nat.reduceEqDiff, Nat.reduceAdd, Nat.reduceMul, Nat.reduceLeDiff, Nat.reduceSub, Nat.reduceLT, Int.reduceToNat, Int.reduceLT, Int.reduceLE, reduceCtorEq]
          rw [keep j (by omega)]
          exact hold2 j hj
    try simp only [r18_10, r18_11, e7, hfb, hsb, rd_of hfb, rd_of hsb, hk2, go_sem, Int.reduceTMod, Int.reduceTDiv, Int.reduceDiv, Int.reduceMod, Int.reduceAdd, Int.reduceSub, Int.reduceMul, Int.reduceNeg, Int.reducePow, Int.reduceEq, ↓reduceIte, Nat.reduceEqDiff, Nat.reduceAdd, Nat.reduceMul, Nat.reduceLeDiff, Nat.reduceSub, Nat.reduceLT, Int.reduceToNat, Int.reduceLT, Int.reduceLE, reduceCtorEq]
    repeat' ((first | refine FK_split (fun h_ => ?_) (fun h_ => ?_) | refine GK_split (fun h_ => ?_) (fun h_ => ?_) | refine ite_both (fun h_ => ?_) (fun h_ => ?_)) <;> (try simp only [decide_eq_true_eq, decide_eq_false_iff_not, Bool.not_true, Bool.not_false, Bool.not_eq_true', Bool.not_eq_false', Bool.not_eq_eq_eq_not, Decidable.not_not] at h_) <;> (try simp only [r18_10, r18_11, e7, hfb, hsb, rd_of hfb, rd_of hsb, hk2, h_, go_sem, Int.reduceTMod, Int.reduceTDiv, Int.reduceDiv, Int.reduceMod, Int.reduceAdd, Int.reduceSub, Int.reduceMul, Int.reduceNeg, Int.reducePow, Int.reduceEq, ↓reduceIte, Nat.reduceEqDiff, Nat.reduceAdd, Nat.reduceMul, Nat.reduceLeDiff, Nat.reduceSub, Nat.reduceLT, Int.reduceToNat, Int.reduceLT, Int.reduceLE, reduceCtorEq]))
    refine body2 _ _ ?_ ?_ ?_ ?_ ?_ ?_ ?_ ?_ ?_ ?_ ?_
    · simp only [e0, go_sem, Int.reduceTMod, Int.reduceTDiv, Int.reduceDiv, Int.reduceMod, Int.reduceAdd, Int.reduceSub, Int.reduceMul, Int.reduceNeg, Int.reducePow, Int.reduceEq, ↓reduceIte, Nat.reduceEqDiff, Nat.reduceAdd, Nat.reduceMul, Nat.reduceLeDiff, Nat.reduceSub, Nat.reduceLT, Int.reduceToNat, Int.reduceLT, Int.reduceLE, reduceCtorEq]
    · simp only [e1, go_sem, Int.reduceTMod, Int.reduceTDiv, Int.reduceDiv, Int.reduceMod, Int.reduceAdd, Int.reduceSub, Int.reduceMul, Int.reduceNeg, Int.reducePow, Int.reduceEq, ↓reduceIte, Nat.reduceEqDiff, Nat.reduceAdd, Nat.reduceMul, Nat.reduceLeDiff, Nat.reduceSub, Nat.reduceLT, Int.reduceToNat, Int.reduceLT, Int.reduceLE, reduceCtorEq]
    · simp only [e7, go_sem, Int.reduceTMod, Int.reduceTDiv, Int.reduceDiv, Int.reduceMod, Int.reduceAdd, Int.reduceSub, Int.reduceMul, Int.reduceNeg, Int.reducePow, Int.reduceEq, ↓reduceIte, Nat.reduceEqDiff, Nat.reduceAdd, Nat.reduceMul, Nat.reduceLeDiff, Nat.reduceSub, Nat.reduceLT, Int.reduceToNat, Int.reduceLT, Int.reduceLE, reduceCtorEq]
    · simp only [go_sem, Int.reduceTMod, Int.reduceTDiv, Int.reduceDiv, Int.reduceMod, Int.reduceAdd, Int.reduceSub, Int.reduceMul, Int.reduceNeg, Int.reducePow, Int.reduceEq, ↓reduceIte, Nat.reduceEqDiff, Nat.reduceAdd, Nat.reduceMul, Nat.reduceLeDiff, Nat.reduceSub, Nat.reduceLT, Int.reduceToNat, Int.reduceLT, Int.reduceLE, reduceCtorEq]
    · simp only [go_sem, Int.reduceTMod, Int.reduceTDiv, Int.reduceDiv, Int.reduceMod, Int.reduceAdd, Int.reduceSub, Int.reduceMul, Int.reduceNeg, Int.reducePow, Int.reduceEq, ↓reduceIte, Nat.reduceEqDiff, Nat.reduceAdd, Nat.reduceMul, Nat.reduceLeDiff, Nat.reduceSub, Nat.reduceLT, Int.reduceToNat, Int.reduceLT, Int.reduceLE, reduceCtorEq]
    · simp only [go_sem, Int.reduceTMod, Int.reduceTDiv, Int.reduceDiv, Int.reduceMod, Int.reduceAdd, Int.reduceSub, Int.reduceMul, Int.reduceNeg, Int.reducePow, Int.reduceEq, ↓reduceIte, Nat.reduceEqDiff, Nat.reduceAdd, Nat.reduceMul, Nat.reduceLeDiff, Nat.reduceSub, Nat.reduceLT, Int.reduceToNat, Int.reduceLT, Int.reduceLE, reduceCtorEq]
    · simp only [nadd, na_eq, hsb, go_sem, Int.reduceTMod, Int.reduceTDiv, Int.reduceDiv, Int.reduceMod, Int.reduceAdd, Int.reduceSub, Int.reduceMul, Int.reduceNeg, Int.reducePow, Int.reduceEq, ↓reduceIte, Nat.reduceEqDiff, Nat.reduceAdd, Nat.reduceMul, Nat.reduceLeDiff, Nat.reduceSub, Nat.reduceLT, Int.reduceToNat, Int.reduceLT, Int.reduceLE, reduceCtorEq]
    · simp only [nadd, na_eq, hfb, go_sem, Int.reduceTMod, Int.reduceTDiv, Int.reduceDiv, Int.reduceMod, Int.reduceAdd, Int.reduceSub, Int.reduceMul, Int.reduceNeg, Int.reducePow, Int.reduceEq, ↓reduceIte, Nat.reduceEqDiff, Nat.reduceAdd, Nat.reduceMul, Nat.reduceLeDiff, Nat.reduceSub, Nat.reduceLT, Int.reduceToNat, Int.reduceLT, Int.reduceLE, reduceCtorEq]
    · simp only [nadd, na_eq, go_sem, Int.reduceTMod, Int.reduceTDiv, Int.reduceDiv, Int.reduceMod, Int.reduceAdd, Int.reduceSub, Int.reduceMul, Int.reduceNeg, Int.reducePow, Int.reduceEq, ↓reduceIte, Nat.reduceEqDiff, Nat.reduceAdd, Nat.reduceMul, Nat.reduceLeDiff, Nat.reduceSub, Nat.reduceLT, Int.reduceToNat, Int.reduceLT, Int.reduceLE, reduceCtorEq]
    · simp only [nadd, na_eq, go_sem, Int.reduceTMod, Int.reduceTDiv, Int.reduceDiv, Int.reduceMod, Int.reduceAdd, Int.reduceSub, Int.reduceMul, Int.reduceNeg, Int.reducePow, Int.reduceEq, ↓reduceIte, Nat.reduceEqDiff, Nat.reduceAdd, Nat.reduceMul, Nat.reduceLeDiff, Nat.reduceSub, Nat.reduceLT, Int.reduceToNat, Int.reduceLT, Int.reduceLE, reduceCtorEq]
    · intro j hj
      simp only [nadd, na_eq, na_0 hj, na_0 (show j < n + 2 by omega), na_0 (show j < n + 3 by omega), go_sem, Int.reduceTMod, Int.reduceTDiv, Int.reduceDiv, Int.reduceMod, Int.reduceAdd, Int.reduceSub, Int.reduceMul, Int.reduceNeg, Int.reducePow, Int.reduceEq, ↓reduceIte, Nat.reduceEqDiff, Nat.reduceAdd, Nat.reduceMul, Nat.reduceLeDiff, Nat.reduceSub, Nat.reduceLT, Int.reduceToNat, Int.reduceLT, Int.reduceLE, reduceCtorEq]
      exact hold1 j hj
  try simp only [F18, c18, r18_0, r18_1, r18_2, r18_3, r18_4, r18_5, r18_6, r18_7, r18_8, vA, hat0, c2, c3, c4, hlen, hb1, hb2, hrd, k1, k5, Int.toNat_natCast, go_sem, Int.reduceTMod, Int.reduceTDiv, Int.reduceDiv, Int.reduceMod, Int.reduceAdd, Int.reduceSub, Int.reduceMul, Int.reduceNeg, Int.reducePow, Int.reduceEq, ↓reduceIte, Nat.reduceEqDiff, Nat.reduceAdd, Nat.reduceMul, Nat.reduceLeDiff, Nat.reduceSub, Nat.reduceLT, Int.reduceToNat, Int.reduceLT, Int.reduceLE, reduceCtorEq]
  repeat' ((first | refine FK_split (fun h_ => ?_) (fun h_ => ?_) | refine GK_split (fun h_ => ?_) (fun h_ => ?_) | refine ite_both (fun h_ => ?_) (fun h_ => ?_)) <;> (try simp only [decide_eq_true_eq, decide_eq_false_iff_not, Bool.not_true, Bool.not_false, Bool.not_eq_true', Bool.not_eq_false', Bool.not_eq_eq_eq_not, Decidable.not_not] at h_) <;> (try simp only [F18, c18, r18_0, r18_1, r18_2, r18_3, r18_4, r18_5, r18_6, r18_7, r18_8, vA, hat0, c2, c3, c4, hlen, hb1, hb2, hrd, k1, k5, Int.toNat_natCast, h_, go_sem, Int.reduceTMod, Int.reduceTDiv, Int.reduceDiv, Int.reduceMod, Int.reduceAdd, Int.reduceSub, Int.reduceMul, Int.reduceNeg, Int.reducePow, Int.reduceEq, ↓reduceIte, Nat.reduceEqDiff, Nat.reduceAdd, Nat.reduceMul, Nat.reduceLeDiff, Nat.reduceSub, Nat.reduceLT, Int.reduceToNat, Int.reduceLT, Int.reduceLE, reduceCtorEq]))
  refine body _ _ ?_ ?_ ?_ ?_ ?_
  · simp only [go_sem, Int.reduceTMod, Int.reduceTDiv, Int.reduceDiv, Int.reduceMod, Int.reduceAdd, Int.reduceSub, Int.reduceMul, Int.reduceNeg, Int.reducePow, Int.reduceEq, ↓reduceIte, Nat.reduceEqDiff, Nat.reduceAdd, Nat.reduceMul, Nat.reduceLeDiff, Nat.reduceSub, Nat.reduceLT, Int.reduceToNat, Int.reduceLT, Int.reduceLE, reduceCtorEq]
  · simp only [go_sem, Int.reduceTMod, Int.reduceTDiv, Int.reduceDiv, Int.reduceMod, Int.reduceAdd, Int.reduceSub, Int.reduceMul, Int.reduceNeg, Int.reducePow, Int.reduceEq, ↓reduceIte, Nat.reduceEqDiff, Nat.reduceAdd, Nat.reduceMul, Nat.reduceLeDiff, Nat.reduceSub, Nat.reduceLT, Int.reduceToNat, Int.reduceLT, Int.reduceLE, reduceCtorEq]
  · simp only [go_sem, Int.reduceTMod, Int.reduceTDiv, Int.reduceDiv, Int.reduceMod, Int.reduceAdd, Int.reduceSub, Int.reduceMul, Int.reduceNeg, Int.reducePow, Int.reduceEq, ↓reduceIte, Nat.reduceEqDiff, Nat.reduceAdd, Nat.reduceMul, Nat.reduceLeDiff, Nat.reduceSub, Nat.reduceLT, Int.reduceToNat, Int.reduceLT, Int.reduceLE, reduceCtorEq]
  · simp only [go_sem, Int.reduceTMod, Int.reduceTDiv, Int.reduceDiv, Int.reduceMod, Int.reduceAdd, Int.reduceSub, Int.reduceMul, Int.reduceNeg, Int.reducePow, Int.reduceEq, ↓reduceIte, Nat.reduceEqDiff, Nat.reduceAdd, Nat.reduceMul, Nat.reduceLeDiff, Nat.reduceSub, Nat.reduceLT, Int.reduceToNat, Int.reduceLT, Int.reduceLE, reduceCtorEq]
  · intro j hj
    simp only [na_0 hj, go_sem, Int.reduceTMod, Int.reduceTDiv, Int.reduceDiv, Int.reduceMod, Int.reduceAdd, Int.reduceSub, Int.reduceMul, Int.reduceNeg, Int.reducePow, Int.reduceEq, ↓reduceIte, Nat.reduceEqDiff, Nat.reduceAdd, Nat.reduceMul, Nat.reduceLeDiff, Nat.reduceSub, Nat.reduceLT, Int.reduceToNat, Int.reduceLT, Int.reduceLE, reduceCtorEq]

/- The law PathEdits walked. Conditions: those that each theorem names. -/
open Go Go.Proofs
set_option linter.unusedSimpArgs false
set_option linter.unusedVariables false

def EdR (e : Int) (l' : List Sg) (M : Mem) (N : Nat) (x : Reg) : Prop := (e ≠ 0 ∧ x = rnil) ∨ (e = 0 ∧ RSg M N x l' ∧ capN x)
theorem EdR.up {e : Int} {l' : List Sg} {M m' : Mem} {N n' : Nat} {x : Reg} (h : EdR e l' M N x) (hn : N ≤ n') : EdR e l' (unfrz M N m') n' x := by
  rcases h with h | ⟨h1, h2, h3⟩
  · exact Or.inl h
  · exact Or.inr ⟨h1, h2.up hn, h3⟩
theorem EdR.keep {e : Int} {l' : List Sg} {M M' : Mem} {N n' : Nat} {x : Reg} (h : EdR e l' M N x) (hn : N ≤ n') (hm : ∀ id, id < N → M' id = M id) : EdR e l' M' n' x := by
  rcases h with h | ⟨h1, h2, h3⟩
  · exact Or.inl h
  · exact Or.inr ⟨h1, h2.keep hn hm, h3⟩
theorem EdR.is {e : Int} {l' : List Sg} {M : Mem} {N : Nat} {x : Reg} (h : EdR e l' M N x) : (e ≠ 0 ∧ x = rnil) ∨ (e = 0 ∧ RSg (frz M) N x l') := by
  rcases h with h | ⟨h1, h2, h3⟩
  · exact Or.inl h
  · exact Or.inr ⟨h1, h2.frz⟩
theorem EdQ.out {e : Int} {l' : List Sg} {M m' : Mem} {N n' : Nat} {r' : Reg} (h : EdQ e l' N r' m' n') : ∃ x, r' = .tup [x, RI e] ∧ N ≤ n' ∧ EdR e l' (unfrz M N m') n' x := by
  obtain ⟨x, h1, h2, h3⟩ := h
  refine ⟨x, h1, h2, ?_⟩
  rcases h3 with h | ⟨h4, h5, h6, h7⟩
  · exact Or.inl h
  · exact Or.inr ⟨h4, h5.nw h7, h6⟩

/- The law PathFlats walked. Conditions: those that each theorem names. -/
open Go Go.Proofs
set_option linter.unusedSimpArgs false
set_option linter.unusedVariables false

theorem OSc.up {u b : Nat} {M m' : Mem} {N n' : Nat} {oc : Cell} {o : List Sb} (h : OSc u b M N oc o) (hn : N ≤ n') : OSc u b (unfrz M N m') n' oc o := h.keep hn (fun id _ hid _ => by rw [unfrz_at, if_pos hid])
theorem OSc.nw {u b : Nat} {M m' : Mem} {N n' : Nat} {oc : Cell} {o : List Sb} (h : OSc u b m' n' oc o) (hb : N ≤ b) : OSc u b (unfrz M N m') n' oc o := h.keep (Nat.le_refl _) (fun id hid _ _ => by rw [unfrz_at, if_neg (by omega)])

/- The law PathSplits walked. Conditions: those that each theorem names. -/
open Go Go.Proofs
set_option linter.unusedSimpArgs false
set_option linter.unusedVariables false

theorem three_row {m : Mem} {n b : Nat} {r s t : Sg} {o : Bool} (hbn : b < n) (hb : m b = some ⟨r.cs ++ (s.cs ++ t.cs), o⟩) : RSg m n (.one (.sl b 0 3 (some 3) 7)) [r, s, t] := by
  refine Or.inr ⟨b, 0, some 3, rfl, hbn, ?_⟩
  rw [rd_of hb]
  rfl
set_option maxHeartbeats 8000000 in
theorem law5_tail {c : Cell} {r1 x2 : Reg} {l : List Sg} {q s : Sg} {fr : Pt} {a b1 b2 : Nat} {d : Int} {e : Nat → Reg} {M : Mem} {N : Nat} {o : Bool} (hk : chkP l = 0) (hs : l[a]? = some s) (hq : l[a - 1]? = some q) (ha0 : 0 < a) (hnq : 1 ≤ need q.k) (hfe : ptJ q ((need q.k).toNat - 1) = fr)
    (hk234 : s.k = 2 ∨ s.k = 3 ∨ s.k = 4) (hfi : inP fr = true) (hin : (s.pts.take (need s.k).toNat).all inP = true) (h60 : l.length ≤ 60) (hr : RSg M N (.one c) l) (hx : RSg M N r1 l) (hE : EdR 0 (splL l a fr s) M N x2) (hz : M 0 = some ⟨needC, o⟩) (hN : 0 < N)
    (hb1 : M b1 = some ⟨(spA fr s).cs, true⟩) (hb2 : M b2 = some ⟨(spB fr s).cs, true⟩) (e0 : e 0 = .one c) (e1 : e 1 = RI a) (e2 : e 2 = RI d) (e7 : e 7 = r1) (e8 : e 8 = x2) (e9 : e 9 = RI 0) (e11 : e 11 = .one (.ptr b1 0)) (e12 : e 12 = .one (.ptr b2 0)) :
    RK TA r5_13 e M N (Kt.seq (.cond (.t 103) (.seq (.reg r5_14) .ret) .skip) (Kt.seq (.seq (.seq (.reg r5_15) (.cond (.t 117) (.seq (.reg r5_16) .ret) .skip)) (.seq (.reg r5_17) (.seq (.reg r5_18) (.seq (.seq (.reg r5_19) (.cond (.t 195) (.seq (.reg r5_20) .ret) .skip)) (.seq (.seq (.reg r5_21) (.block 0 (.loop l5_0))) (.seq (.reg r5_27) .ret)))))) (Kt.fin [.tmp 6] (fun r _ _ => r = RB true)))) := by
  have hal : a < l.length := (List.getElem?_eq_some_iff.1 hs).1
  have a1 : lenO rnil = some 0 := rfl
  have hsl : (splL l a fr s).length = l.length + 1 := by simp [splL]; omega
  have hE2 : RSg M N x2 (splL l a fr s) := (hE.resolve_left (fun h => h.1 rfl)).2.1
  have hsc := splL_chk hk hs hfi hk234 (by omega)
  have hch : chkS true s = 0 := chkS_of hk234 (by
    obtain ⟨op, h1, _⟩ := run_op (d := 0) (l := l) (by unfold chkP at hk; rw [if_neg (by omega)] at hk; exact hk) a (by omega)
    rw [chkL_at hs] at h1
    have h0 : chkS op s = 0 := by
      split at h1
      · assumption
      · exact h1
    exact (chk_pts h0 hk234).2.1) hin
  try simp only [r5_13, e7, e1, e8, e9, e11, e12, hb1, hb2, rd_of hb1, rd_of hb2, List.replicate, go_sem, Int.reduceTMod, Int.reduceTDiv, Int.reduceDiv, Int.reduceMod, Int.reduceAdd, Int.reduceSub, Int.reduceMul, Int.reduceNeg, Int.reducePow, Int.reduceEq, ↓reduceIte, Nat.reduceEqDiff, Nat.reduceAdd, Nat.reduceMul, Nat.reduceLeDiff, Nat.reduceSub, Nat.reduceLT, Int.reduceToNat, Int.reduceLT, Int.reduceLE, reduceCtorEq]
  repeat' ((first | refine FK_split (fun h_ => ?_) (fun h_ => ?_) | refine GK_split (fun h_ => ?_) (fun h_ => ?_) | refine ite_both (fun h_ => ?_) (fun h_ => ?_)) <;> (try simp only [decide_eq_true_eq, decide_eq_false_iff_not, Bool.not_true, Bool.not_false, Bool.not_eq_true', Bool.not_eq_false', Bool.not_eq_eq_eq_not, Decidable.not_not] at h_) <;> (try simp only [r5_13, e7, e1, e8, e9, e11, e12, hb1, hb2, rd_of hb1, rd_of hb2, List.replicate, h_, go_sem, Int.reduceTMod, Int.reduceTDiv, Int.reduceDiv, Int.reduceMod, Int.reduceAdd, Int.reduceSub, Int.reduceMul, Int.reduceNeg, Int.reducePow, Int.reduceEq, ↓reduceIte, Nat.reduceEqDiff, Nat.reduceAdd, Nat.reduceMul, Nat.reduceLeDiff, Nat.reduceSub, Nat.reduceLT, Int.reduceToNat, Int.reduceLT, Int.reduceLE, reduceCtorEq]))
  refine RK_callk ?_
  show Fn TA _ [r1, RI a, RI 1, .one (.sl N 0 2 (some 2) 7)] _ _ _
  have hx' : RSg (upd M N (some ⟨(spA fr s).cs ++ (spB fr s).cs, true⟩)) (N + 1) r1 l := hx.keep (by omega) (fun id hid => upd_ne _ _ (by omega))
  refine (w_With (a := a) (dr := 1) (xs := [spA fr s, spB fr s]) hx'.frz (two_row (o := false) (by omega) (by rw [frz_at]; show ((upd M N (some ⟨(spA fr s).cs ++ (spB fr s).cs, true⟩)) N).map _ = _; rw [upd_same]; rfl)) (by omega) (by simp only [List.length_cons, List.length_nil]; omega)).mono ?_
  rintro w6 m6 n6 ⟨ho6, hn6⟩
  rw [show l.take a ++ [spA fr s, spB fr s] ++ l.drop (a + 1) = splL l a fr s from rfl] at ho6
  rw [show max (N + 1) n6 = n6 by omega]
  obtain ⟨M6, hM6⟩ : ∃ M6, M6 = unfrz (upd M N (some ⟨(spA fr s).cs ++ (spB fr s).cs, true⟩)) (N + 1) m6 := ⟨_, rfl⟩
  have hM6' := hM6
  simp only [List.cons_append, List.nil_append] at hM6'
  rw [← hM6']
  have hf6 : ∀ j, j < N → M6 j = M j := fun j hj => by rw [hM6, unfrz_at, if_pos (by omega), upd_ne _ _ (by omega)]
  have hw6 : RSg M6 n6 w6 (splL l a fr s) := by rw [hM6]; exact (ho6.rl cs7).nw (fun j hj => ho6.sidge hj)
  clear hM6 hM6'
  have hr6 := hr.keep (show N ≤ n6 by omega) hf6
  have hx6 := hx.keep (show N ≤ n6 by omega) hf6
  have hE6 := hE2.keep (show N ≤ n6 by omega) hf6
  have hz6 : M6 0 = some ⟨needC, o⟩ := by rw [hf6 0 hN]; exact hz
  have vI := v_is (Or.inr ⟨rfl, hE6.frz⟩) hsc.symm hw6.frz (by omega)
  obtain ⟨id, off, cap, hc1, hid, hrd⟩ := hr6.at cs7 hs
  obtain ⟨b, hbb1, hbb2⟩ := rd_cell hrd (a := 0) (c := I s.k) rfl
  rw [Nat.add_zero] at hbb2
  injection hc1 with hc1
  subst hc1
  have c2 : ((a : Int) < (l.length : Int)) = True := eq_true (by omega)
  have c3 : (0 ≤ (a : Int)) = True := eq_true (by omega)
  by_cases hk2 : s.k = 2
  · skip
    try simp only [r5_13, r5_14, r5_15, r5_16, vI, e0, e1, e2, c2, c3, hbb1, hbb2, hk2, hz6, needC_flat, v_awake06, Int.toNat_natCast, go_sem, Int.reduceTMod, Int.reduceTDiv, Int.reduceDiv, Int.reduceMod, Int.reduceAdd, Int.reduceSub, Int.reduceMul, Int.reduceNeg, Int.reducePow, Int.reduceEq, ↓reduceIte, Nat.reduceEqDiff, Nat.reduceAdd, Nat.reduceMul, Nat.reduceLeDiff, Nat.reduceSub, Nat.reduceLT, Int.reduceToNat, Int.reduceLT, Int.reduceLE, reduceCtorEq]
    repeat' ((first | refine FK_split (fun h_ => ?_) (fun h_ => ?_) | refine GK_split (fun h_ => ?_) (fun h_ => ?_) | refine ite_both (fun h_ => ?_) (fun h_ => ?_)) <;> (try simp only [decide_eq_true_eq, decide_eq_false_iff_not, Bool.not_true, Bool.not_false, Bool.not_eq_true', Bool.not_eq_false', Bool.not_eq_eq_eq_not, Decidable.not_not] at h_) <;> (try simp only [r5_13, r5_14, r5_15, r5_16, vI, e0, e1, e2, c2, c3, hbb1, hbb2, hk2, hz6, needC_flat, v_awake06, Int.toNat_natCast, h_, go_sem, Int.reduceTMod, Int.reduceTDiv, Int.reduceDiv, Int.reduceMod, Int.reduceAdd, Int.reduceSub, Int.reduceMul, Int.reduceNeg, Int.reducePow, Int.reduceEq, ↓reduceIte, Nat.reduceEqDiff, Nat.reduceAdd, Nat.reduceMul, Nat.reduceLeDiff, Nat.reduceSub, Nat.reduceLT, Int.reduceToNat, Int.reduceLT, Int.reduceLE, reduceCtorEq]))
  by_cases hd1 : d < 1
  · skip
    try simp only [r5_13, r5_14, r5_15, r5_16, vI, e0, e1, e2, c2, c3, hbb1, hbb2, hk2, hd1, hz6, needC_flat, v_awake06, Int.toNat_natCast, go_sem, Int.reduceTMod, Int.reduceTDiv, Int.reduceDiv, Int.reduceMod, Int.reduceAdd, Int.reduceSub, Int.reduceMul, Int.reduceNeg, Int.reducePow, Int.reduceEq, ↓reduceIte, Nat.reduceEqDiff, Nat.reduceAdd, Nat.reduceMul, Nat.reduceLeDiff, Nat.reduceSub, Nat.reduceLT, Int.reduceToNat, Int.reduceLT, Int.reduceLE, reduceCtorEq]
    repeat' ((first | refine FK_split (fun h_ => ?_) (fun h_ => ?_) | refine GK_split (fun h_ => ?_) (fun h_ => ?_) | refine ite_both (fun h_ => ?_) (fun h_ => ?_)) <;> (try simp only [decide_eq_true_eq, decide_eq_false_iff_not, Bool.not_true, Bool.not_false, Bool.not_eq_true', Bool.not_eq_false', Bool.not_eq_eq_eq_not, Decidable.not_not] at h_) <;> (try simp only [r5_13, r5_14, r5_15, r5_16, vI, e0, e1, e2, c2, c3, hbb1, hbb2, hk2, hd1, hz6, needC_flat, v_awake06, Int.toNat_natCast, h_, go_sem, Int.reduceTMod, Int.reduceTDiv, Int.reduceDiv, Int.reduceMod, Int.reduceAdd, Int.reduceSub, Int.reduceMul, Int.reduceNeg, Int.reducePow, Int.reduceEq, ↓reduceIte, Nat.reduceEqDiff, Nat.reduceAdd, Nat.reduceMul, Nat.reduceLeDiff, Nat.reduceSub, Nat.reduceLT, Int.reduceToNat, Int.reduceLT, Int.reduceLE, reduceCtorEq]))
  by_cases hd6 : 6 < d
  · skip
    try simp only [r5_13, r5_14, r5_15, r5_16, vI, e0, e1, e2, c2, c3, hbb1, hbb2, hk2, hd1, hd6, hz6, needC_flat, v_awake06, Int.toNat_natCast, go_sem, Int.reduceTMod, Int.reduceTDiv, Int.reduceDiv, Int.reduceMod, Int.reduceAdd, Int.reduceSub, Int.reduceMul, Int.reduceNeg, Int.reducePow, Int.reduceEq, ↓reduceIte, Nat.reduceEqDiff, Nat.reduceAdd, Nat.reduceMul, Nat.reduceLeDiff, Nat.reduceSub, Nat.reduceLT, Int.reduceToNat, Int.reduceLT, Int.reduceLE, reduceCtorEq]
    repeat' ((first | refine FK_split (fun h_ => ?_) (fun h_ => ?_) | refine GK_split (fun h_ => ?_) (fun h_ => ?_) | refine ite_both (fun h_ => ?_) (fun h_ => ?_)) <;> (try simp only [decide_eq_true_eq, decide_eq_false_iff_not, Bool.not_true, Bool.not_false, Bool.not_eq_true', Bool.not_eq_false', Bool.not_eq_eq_eq_not, Decidable.not_not] at h_) <;> (try simp only [r5_13, r5_14, r5_15, r5_16, vI, e0, e1, e2, c2, c3, hbb1, hbb2, hk2, hd1, hd6, hz6, needC_flat, v_awake06, Int.toNat_natCast, h_, go_sem, Int.reduceTMod, Int.reduceTDiv, Int.reduceDiv, Int.reduceMod, Int.reduceAdd, Int.reduceSub, Int.reduceMul, Int.reduceNeg, Int.reducePow, Int.reduceEq, ↓reduceIte, Nat.reduceEqDiff, Nat.reduceAdd, Nat.reduceMul, Nat.reduceLeDiff, Nat.reduceSub, Nat.reduceLT, Int.reduceToNat, Int.reduceLT, Int.reduceLE, reduceCtorEq]))
  have hk34 : s.k = 3 ∨ s.k = 4 := by omega
  obtain ⟨dn, rfl⟩ : ∃ dn : Nat, d = ((dn + 1 : Nat) : Int) := ⟨d.toNat - 1, by omega⟩
  have vF := v_From hx6.frz hq ha0 (by omega) hnq
  rw [hfe] at vF
  have nid := na_0 hid
  try simp only [r5_13, r5_14, r5_15, r5_17, vI, vF, e0, e1, e2, e7, c2, c3, hbb1, hbb2, hk2, hd1, hd6, hrd, List.replicate, Int.toNat_natCast, go_sem, Int.reduceTMod, Int.reduceTDiv, Int.reduceDiv, Int.reduceMod, Int.reduceAdd, Int.reduceSub, Int.reduceMul, Int.reduceNeg, Int.reducePow, Int.reduceEq, ↓reduceIte, Nat.reduceEqDiff, Nat.reduceAdd, Nat.reduceMul, Nat.reduceLeDiff, Nat.reduceSub, Nat.reduceLT, Int.reduceToNat, Int.reduceLT, Int.reduceLE, reduceCtorEq]
  repeat' ((first | refine FK_split (fun h_ => ?_) (fun h_ => ?_) | refine GK_split (fun h_ => ?_) (fun h_ => ?_) | refine ite_both (fun h_ => ?_) (fun h_ => ?_)) <;> (try simp only [decide_eq_true_eq, decide_eq_false_iff_not, Bool.not_true, Bool.not_false, Bool.not_eq_true', Bool.not_eq_false', Bool.not_eq_eq_eq_not, Decidable.not_not] at h_) <;> (try simp only [r5_13, r5_14, r5_15, r5_17, vI, vF, e0, e1, e2, e7, c2, c3, hbb1, hbb2, hk2, hd1, hd6, hrd, List.replicate, Int.toNat_natCast, h_, go_sem, Int.reduceTMod, Int.reduceTDiv, Int.reduceDiv, Int.reduceMod, Int.reduceAdd, Int.reduceSub, Int.reduceMul, Int.reduceNeg, Int.reducePow, Int.reduceEq, ↓reduceIte, Nat.reduceEqDiff, Nat.reduceAdd, Nat.reduceMul, Nat.reduceLeDiff, Nat.reduceSub, Nat.reduceLT, Int.reduceToNat, Int.reduceLT, Int.reduceLE, reduceCtorEq]))
  refine RK_callk ?_
  show Fn TA _ [.one (.sl n6 0 2 (some 2) 7), RI ((dn + 1 : Nat) : Int)] _ _ _
  refine (w_PFlat (o := false) (two_row (s := mvS fr) (t := s) (o := false) (by omega) (by rw [frz_at]; show ((upd M6 n6 (some ⟨(mvS fr).cs ++ s.cs, true⟩)) n6).map _ = _; rw [upd_same]; rfl)) (by rw [frz_at, upd_ne _ _ (by omega), hz6]; rfl) (by omega) (by simp)).mono ?_
  rintro _ m7 n7 ⟨x7, k7, rfl, hn7, hx7⟩
  rw [show max (n6 + 1) n7 = n7 by omega]
  have hoc := old_chk hfi hch
  obtain ⟨_, _, _, rfl, oc, rfl, hO⟩ := (hx7.resolve_left (fun h => h.1 hoc)).resolve_left (fun h => by have := h.2.1; omega)
  rw [Int.toNat_natCast, show [mvS fr, s].length = 2 from rfl, old_st (dn + 1) hk34] at hO
  obtain ⟨M7, hM7⟩ : ∃ M7, M7 = unfrz (upd M6 n6 (some ⟨(mvS fr).cs ++ s.cs, true⟩)) (n6 + 1) m7 := ⟨_, rfl⟩
  have hM7' := hM7
  simp only [List.cons_append, List.nil_append, mvS] at hM7'
  rw [← hM7']
  have hf7 : ∀ j, j < n6 → M7 j = M6 j := fun j hj => by rw [hM7, unfrz_at, if_pos (by omega), upd_ne _ _ (by omega)]
  have hO7 : OSc 0 (n6 + 2) M7 n7 oc [⟨fr :: Cu.flat (dn + 1) (cvOf fr s), false⟩] := by rw [hM7]; exact hO.nw (by omega)
  clear hM7 hM7' hO hx7
  have hx7 := hx6.keep (show n6 ≤ n7 by omega) hf7
  have hE7 := hE6.keep (show n6 ≤ n7 by omega) hf7
  have hz7 : M7 0 = some ⟨needC, o⟩ := by rw [hf7 0 (by omega)]; exact hz6
  have vF7 := v_From hx7.frz hq ha0 (by omega) hnq
  rw [hfe] at vF7
  obtain ⟨idq, offq, capq, rfl, hidq, hrdq⟩ := hE7.resolve_left (fun h => by rw [h.2] at hsl; simp at hsl)
  have sA : (splL l a fr s)[a]? = some (spA fr s) := by
    unfold splL
    rw [List.append_assoc, List.getElem?_append_right (by simp; omega)]
    simp [List.length_take, Nat.min_eq_left (show a ≤ l.length by omega)]
  have sB : (splL l a fr s)[a + 1]? = some (spB fr s) := by
    unfold splL
    rw [List.append_assoc, List.getElem?_append_right (by simp; omega)]
    simp [List.length_take, Nat.min_eq_left (show a ≤ l.length by omega)]
  have rA := rd_at cs7 hrdq sA
  have rB := rd_at cs7 hrdq sB
  have d2 : ((a : Int) < ((splL l a fr s).length : Int)) = True := eq_true (by omega)
  have d3 : (((a + 1 : Nat) : Int) < ((splL l a fr s).length : Int)) = True := eq_true (by omega)
  have d4 : (0 ≤ ((a + 1 : Nat) : Int)) = True := eq_true (by omega)
  have w1 : IntKind.i64.wrap ((a : Int) + 1) = ((a + 1 : Nat) : Int) := wr_nat (by omega)
  have w2 : IntKind.i64.wrap (((dn + 1 : Nat) : Int) - 1) = (dn : Int) := (wr_eq (by omega) (by omega)).trans (by omega)
  try simp only [r5_17, r5_18, vF7, e1, e2, e7, e8, c3, d2, d3, d4, w1, w2, rA, rB, List.replicate, Int.toNat_natCast, go_sem, Int.reduceTMod, Int.reduceTDiv, Int.reduceDiv, Int.reduceMod, Int.reduceAdd, Int.reduceSub, Int.reduceMul, Int.reduceNeg, Int.reducePow, Int.reduceEq, ↓reduceIte, Nat.reduceEqDiff, Nat.reduceAdd, Nat.reduceMul, Nat.reduceLeDiff, Nat.reduceSub, Nat.reduceLT, Int.reduceToNat, Int.reduceLT, Int.reduceLE, reduceCtorEq]
  repeat' ((first | refine FK_split (fun h_ => ?_) (fun h_ => ?_) | refine GK_split (fun h_ => ?_) (fun h_ => ?_) | refine ite_both (fun h_ => ?_) (fun h_ => ?_)) <;> (try simp only [decide_eq_true_eq, decide_eq_false_iff_not, Bool.not_true, Bool.not_false, Bool.not_eq_true', Bool.not_eq_false', Bool.not_eq_eq_eq_not, Decidable.not_not] at h_) <;> (try simp only [r5_17, r5_18, vF7, e1, e2, e7, e8, c3, d2, d3, d4, w1, w2, rA, rB, List.replicate, Int.toNat_natCast, h_, go_sem, Int.reduceTMod, Int.reduceTDiv, Int.reduceDiv, Int.reduceMod, Int.reduceAdd, Int.reduceSub, Int.reduceMul, Int.reduceNeg, Int.reducePow, Int.reduceEq, ↓reduceIte, Nat.reduceEqDiff, Nat.reduceAdd, Nat.reduceMul, Nat.reduceLeDiff, Nat.reduceSub, Nat.reduceLT, Int.reduceToNat, Int.reduceLT, Int.reduceLE, reduceCtorEq]))
  refine RK_callk ?_
  show Fn TA _ [.one (.sl n7 0 3 (some 3) 7), RI (dn : Int)] _ _ _
  refine (w_PFlat (o := false) (three_row (r := mvS fr) (s := spA fr s) (t := spB fr s) (o := false) (by omega) (by rw [frz_at]; show ((upd M7 n7 (some ⟨(mvS fr).cs ++ ((spA fr s).cs ++ (spB fr s).cs), true⟩)) n7).map _ = _; rw [upd_same]; rfl)) (by rw [frz_at, upd_ne _ _ (by omega), hz7]; rfl) (by omega) (by simp)).mono ?_
  rintro _ m8 n8 ⟨x8, k8, rfl, hn8, hx8⟩
  rw [show max (n7 + 1) n8 = n8 by omega]
  obtain ⟨cA, cB⟩ := sp_chk hfi hk234 hch
  have hoc2 := now_chk hfi cA (by rw [sp_k.1]; omega) cB
  obtain ⟨_, _, _, rfl, oc2, rfl, hP⟩ := (hx8.resolve_left (fun h => h.1 hoc2)).resolve_left (fun h => by have := h.2.1; omega)
  rw [Int.toNat_natCast, show [mvS fr, spA fr s, spB fr s].length = 3 from rfl, now_st dn hk34] at hP
  obtain ⟨M8, hM8⟩ : ∃ M8, M8 = unfrz (upd M7 n7 (some ⟨(mvS fr).cs ++ ((spA fr s).cs ++ (spB fr s).cs), true⟩)) (n7 + 1) m8 := ⟨_, rfl⟩
  have hM8' := hM8
  simp only [List.cons_append, List.nil_append, mvS] at hM8'
  rw [← hM8']
  have hf8 : ∀ j, j < n7 → M8 j = M7 j := fun j hj => by rw [hM8, unfrz_at, if_pos (by omega), upd_ne _ _ (by omega)]
  have hP8 : OSc 0 (n7 + 2) M8 n8 oc2 [⟨fr :: Cu.flat (dn + 1) (cvOf fr s), false⟩] := by rw [hM8]; exact hP.nw (by omega)
  have hO8 : OSc 0 (n6 + 2) M8 n8 oc [⟨fr :: Cu.flat (dn + 1) (cvOf fr s), false⟩] := hO7.keep (by omega) (fun id _ h _ => hf8 id h)
  have hz8 : M8 0 = some ⟨needC, o⟩ := by rw [hf8 0 (by omega)]; exact hz7
  have hLl : (fr :: Cu.flat (dn + 1) (cvOf fr s)).length ≤ 65 := by
    have := Cu.flat_length (dn + 1) (cvOf fr s)
    have hp : (2 : Nat) ^ (dn + 1) ≤ 2 ^ 6 := Nat.pow_le_pow_right (by omega) (by omega)
    rw [List.length_cons, this]
    omega
  clear hM8 hM8' hP hx8
  generalize fr :: Cu.flat (dn + 1) (cvOf fr s) = L at *
  obtain ⟨id1, cc1, bk1, e1', i1, f1, f2, f3, f4⟩ := hO8.get (i := 0) rfl
  obtain ⟨id2, cc2, bk2, e2', i2, g1, g2, g3, g4⟩ := hP8.get (i := 0) rfl
  subst e1'
  subst e2'
  simp only [Nat.zero_mul, List.length_cons, List.length_nil, Nat.zero_add] at f2 g2 ⊢
  have y1 := f4.len
  have y2 := g4.len
  try simp only [r5_18, r5_19, r5_21, f1, f2, g1, g2, y1, y2, go_sem, Int.reduceTMod, Int.reduceTDiv, Int.reduceDiv, Int.reduceMod, Int.reduceAdd, Int.reduceSub, Int.reduceMul, Int.reduceNeg, Int.reducePow, Int.reduceEq, ↓reduceIte, Nat.reduceEqDiff, Nat.reduceAdd, Nat.reduceMul, Nat.reduceLeDiff, Nat.reduceSub, Nat.reduceLT, Int.reduceToNat, Int.reduceLT, Int.reduceLE, reduceCtorEq]
  repeat' ((first | refine FK_split (fun h_ => ?_) (fun h_ => ?_) | refine GK_split (fun h_ => ?_) (fun h_ => ?_) | refine ite_both (fun h_ => ?_) (fun h_ => ?_)) <;> (try simp only [decide_eq_true_eq, decide_eq_false_iff_not, Bool.not_true, Bool.not_false, Bool.not_eq_true', Bool.not_eq_false', Bool.not_eq_eq_eq_not, Decidable.not_not] at h_) <;> (try simp only [r5_18, r5_19, r5_21, f1, f2, g1, g2, y1, y2, h_, go_sem, Int.reduceTMod, Int.reduceTDiv, Int.reduceDiv, Int.reduceMod, Int.reduceAdd, Int.reduceSub, Int.reduceMul, Int.reduceNeg, Int.reducePow, Int.reduceEq, ↓reduceIte, Nat.reduceEqDiff, Nat.reduceAdd, Nat.reduceMul, Nat.reduceLeDiff, Nat.reduceSub, Nat.reduceLT, Int.reduceToNat, Int.reduceLT, Int.reduceLE, reduceCtorEq]))
  refine XK_iter (inv := fun j st => st.e 201 = RI j ∧ st.e 200 = RI L.length ∧ st.e 199 = .one cc1 ∧ st.e 15 = .one (.sl id2 0 1 none 2) ∧ n8 ≤ st.n ∧ (∀ id, id < n8 → st.m id = M8 id)) L.length
    (fun L2 _ => ⟨fun j hj st hst next => ?_, fun st hst => ?_⟩) 0 (by omega) _ ⟨?_, ?_, ?_, ?_, ?_, ?_⟩
  · obtain ⟨e3, M9, N9⟩ := st
    obtain ⟨t201, t200, t199, t15, tn, tm⟩ := hst
    simp only at t201 t200 t199 t15 tn tm
    have hp2 : L[j]? = some L[j] := List.getElem?_eq_getElem hj
    obtain ⟨ia, offa, capa, q1, hia, hrda⟩ := (f4.keep tn tm).at cs2 hp2
    obtain ⟨ib, offb, capb, q2, hib, hrdb⟩ := (g4.keep tn tm).at cs2 hp2
    generalize L[j] = pp at *
    have h1 : ((j : Int) < (L.length : Int)) = True := eq_true (by omega)
    have h2 : (0 ≤ (j : Int)) = True := eq_true (by omega)
    have h7 : IntKind.i64.wrap ((j : Int) + 1) = ((j + 1 : Nat) : Int) := wr_nat (by omega)
    have mm2 : M9 id2 = some bk2 := by rw [tm id2 i2]; exact g1
    have t199' := t199
    rw [q1] at t199'
    have ec2 : cc2 = .sl ib offb L.length capb 2 := by injection q2
    have g2' := g2
    rw [ec2] at g2'
    have n1' := na_0 hia
    have n2' := na_0 hib
    have n3' := na_0 (show id2 < N9 by omega)
    try simp only [r5_22, r5_23, r5_24, r5_26, l5_0, t201, t200, t199', t15, h1, h2, h7, hrda, hrdb, mm2, g2', n1', n2', n3', Int.toNat_natCast, go_sem, Int.reduceTMod, Int.reduceTDiv, Int.reduceDiv, Int.reduceMod, Int.reduceAdd, Int.reduceSub, Int.reduceMul, Int.reduceNeg, Int.reducePow, Int.reduceEq, ↓reduceIte, Nat.reduceEqDiff, Nat.reduceAdd, Nat.reduceMul, Nat.reduceLeDiff, Nat.reduceSub, Nat.reduceLT, Int.reduceToNat, Int.reduceLT, Int.reduceLE, reduceCtorEq]
    repeat' ((first | refine FK_split (fun h_ => ?_) (fun h_ => ?_) | refine GK_split (fun h_ => ?_) (fun h_ => ?_) | refine ite_both (fun h_ => ?_) (fun h_ => ?_)) <;> (try simp only [decide_eq_true_eq, decide_eq_false_iff_not, Bool.not_true, Bool.not_false, Bool.not_eq_true', Bool.not_eq_false', Bool.not_eq_eq_eq_not, Decidable.not_not] at h_) <;> (try simp only [r5_22, r5_23, r5_24, r5_26, l5_0, t201, t200, t199', t15, h1, h2, h7, hrda, hrdb, mm2, g2', n1', n2', n3', Int.toNat_natCast, h_, go_sem, Int.reduceTMod, Int.reduceTDiv, Int.reduceDiv, Int.reduceMod, Int.reduceAdd, Int.reduceSub, Int.reduceMul, Int.reduceNeg, Int.reducePow, Int.reduceEq, ↓reduceIte, Nat.reduceEqDiff, Nat.reduceAdd, Nat.reduceMul, Nat.reduceLeDiff, Nat.reduceSub, Nat.reduceLT, Int.reduceToNat, Int.reduceLT, Int.reduceLE, reduceCtorEq]))
    refine next _ ⟨?_, ?_, ?_, ?_, ?_, ?_⟩
    · simp only [go_sem, Int.reduceTMod, Int.reduceTDiv, Int.reduceDiv, Int.reduceMod, Int.reduceAdd, Int.reduceSub, Int.reduceMul, Int.reduceNeg, Int.reducePow, Int.reduceEq, ↓reduceIte, Nat.reduceEqDiff, Nat.reduceAdd, Nat.reduceMul, Nat.reduceLeDiff, Nat.reduceSub, Nat.reduceLT, Int.reduceToNat, Int.reduceLT, Int.reduceLE, reduceCtorEq]
    · simp only [t200, go_sem, Int.reduceTMod, Int.reduceTDiv, Int.reduceDiv, Int.reduceMod, Int.reduceAdd, Int.reduceSub, Int.reduceMul, Int.reduceNeg, Int.reducePow, Int.reduceEq, ↓reduceIte, Nat.reduceEqDiff, Nat.reduceAdd, Nat.reduceMul, Nat.reduceLeDiff, Nat.reduceSub, Nat.reduceLT, Int.reduceToNat, Int.reduceLT, Int.reduceLE, reduceCtorEq]
    · simp only [t199, go_sem, Int.reduceTMod, Int.reduceTDiv, Int.reduceDiv, Int.reduceMod, Int.reduceAdd, Int.reduceSub, Int.reduceMul, Int.reduceNeg, Int.reducePow, Int.reduceEq, ↓reduceIte, Nat.reduceEqDiff, Nat.reduceAdd, Nat.reduceMul, Nat.reduceLeDiff, Nat.reduceSub, Nat.reduceLT, Int.reduceToNat, Int.reduceLT, Int.reduceLE, reduceCtorEq]
    · simp only [t15, go_sem, Int.reduceTMod, Int.reduceTDiv, Int.reduceDiv, Int.reduceMod, Int.reduceAdd, Int.reduceSub, Int.reduceMul, Int.reduceNeg, Int.reducePow, Int.reduceEq, ↓reduceIte, Nat.reduceEqDiff, Nat.reduceAdd, Nat.reduceMul, Nat.reduceLeDiff, Nat.reduceSub, Nat.reduceLT, Int.reduceToNat, Int.reduceLT, Int.reduceLE, reduceCtorEq]
    · simp only; omega
    · intro id hid
      simp only [na_0 (show id < N9 by omega), go_sem, Int.reduceTMod, Int.reduceTDiv, Int.reduceDiv, Int.reduceMod, Int.reduceAdd, Int.reduceSub, Int.reduceMul, Int.reduceNeg, Int.reducePow, Int.reduceEq, ↓reduceIte, Nat.reduceEqDiff, Nat.reduceAdd, Nat.reduceMul, Nat.reduceLeDiff, Nat.reduceSub, Nat.reduceLT, Int.reduceToNat, Int.reduceLT, Int.reduceLE, reduceCtorEq]
      exact tm id hid
  · obtain ⟨e3, M9, N9⟩ := st
    obtain ⟨t201, t200, t199, t15, tn, tm⟩ := hst
    simp only at t201 t200 t199 t15 tn tm
    have h1 : ((L.length : Int) < (L.length : Int)) = False := eq_false (by omega)
    have hz9 : M9 0 = some ⟨needC, o⟩ := by rw [tm 0 (by omega)]; exact hz8
    try simp only [r5_22, r5_27, l5_0, t201, t200, h1, hz9, needC_flat, v_awake06, go_sem, Int.reduceTMod, Int.reduceTDiv, Int.reduceDiv, Int.reduceMod, Int.reduceAdd, Int.reduceSub, Int.reduceMul, Int.reduceNeg, Int.reducePow, Int.reduceEq, ↓reduceIte, Nat.reduceEqDiff, Nat.reduceAdd, Nat.reduceMul, Nat.reduceLeDiff, Nat.reduceSub, Nat.reduceLT, Int.reduceToNat, Int.reduceLT, Int.reduceLE, reduceCtorEq]
    repeat' ((first | refine FK_split (fun h_ => ?_) (fun h_ => ?_) | refine GK_split (fun h_ => ?_) (fun h_ => ?_) | refine ite_both (fun h_ => ?_) (fun h_ => ?_)) <;> (try simp only [decide_eq_true_eq, decide_eq_false_iff_not, Bool.not_true, Bool.not_false, Bool.not_eq_true', Bool.not_eq_false', Bool.not_eq_eq_eq_not, Decidable.not_not] at h_) <;> (try simp only [r5_22, r5_27, l5_0, t201, t200, h1, hz9, needC_flat, v_awake06, h_, go_sem, Int.reduceTMod, Int.reduceTDiv, Int.reduceDiv, Int.reduceMod, Int.reduceAdd, Int.reduceSub, Int.reduceMul, Int.reduceNeg, Int.reducePow, Int.reduceEq, ↓reduceIte, Nat.reduceEqDiff, Nat.reduceAdd, Nat.reduceMul, Nat.reduceLeDiff, Nat.reduceSub, Nat.reduceLT, Int.reduceToNat, Int.reduceLT, Int.reduceLE, reduceCtorEq]))
  · simp only [go_sem, Int.reduceTMod, Int.reduceTDiv, Int.reduceDiv, Int.reduceMod, Int.reduceAdd, Int.reduceSub, Int.reduceMul, Int.reduceNeg, Int.reducePow, Int.reduceEq, ↓reduceIte, Nat.reduceEqDiff, Nat.reduceAdd, Nat.reduceMul, Nat.reduceLeDiff, Nat.reduceSub, Nat.reduceLT, Int.reduceToNat, Int.reduceLT, Int.reduceLE, reduceCtorEq]
  · simp only [go_sem, Int.reduceTMod, Int.reduceTDiv, Int.reduceDiv, Int.reduceMod, Int.reduceAdd, Int.reduceSub, Int.reduceMul, Int.reduceNeg, Int.reducePow, Int.reduceEq, ↓reduceIte, Nat.reduceEqDiff, Nat.reduceAdd, Nat.reduceMul, Nat.reduceLeDiff, Nat.reduceSub, Nat.reduceLT, Int.reduceToNat, Int.reduceLT, Int.reduceLE, reduceCtorEq]
  · simp only [go_sem, Int.reduceTMod, Int.reduceTDiv, Int.reduceDiv, Int.reduceMod, Int.reduceAdd, Int.reduceSub, Int.reduceMul, Int.reduceNeg, Int.reducePow, Int.reduceEq, ↓reduceIte, Nat.reduceEqDiff, Nat.reduceAdd, Nat.reduceMul, Nat.reduceLeDiff, Nat.reduceSub, Nat.reduceLT, Int.reduceToNat, Int.reduceLT, Int.reduceLE, reduceCtorEq]
  · simp only [go_sem, Int.reduceTMod, Int.reduceTDiv, Int.reduceDiv, Int.reduceMod, Int.reduceAdd, Int.reduceSub, Int.reduceMul, Int.reduceNeg, Int.reducePow, Int.reduceEq, ↓reduceIte, Nat.reduceEqDiff, Nat.reduceAdd, Nat.reduceMul, Nat.reduceLeDiff, Nat.reduceSub, Nat.reduceLT, Int.reduceToNat, Int.reduceLT, Int.reduceLE, reduceCtorEq]
  · exact Nat.le_refl _
  · exact fun _ _ => rfl
set_option maxHeartbeats 8000000 in
theorem law5 (c : Cell) (l : List Sg) (i d : Int) (m : Mem) (n : Nat) (hr : RSg m n (.one c) l) (hc : capN (.one c)) (hn : 0 < n) (o : Bool) (h0 : m 0 = some ⟨needC, o⟩) :
    Fn TA 5 [.one c, RI i, RI d] m n (fun r _ _ => r = RB true) := by
  refine Fn_ofK (fn := F5) rfl (by simp [F5]) ?_
  have hlen := hr.len
  have a1 : lenO rnil = some 0 := rfl
  by_cases g : 60 < (l.length : Int)
  · skip
    try simp only [r5_0, r5_1, r5_2, r5_3, r5_4, r5_5, r5_6, r5_7, r5_8, r5_9, r5_10, r5_11, r5_12, r5_13, r5_14, r5_15, r5_16, r5_17, r5_18, r5_19, r5_20, r5_21, r5_22, r5_23, r5_24, r5_25, r5_26, r5_27, c5, F5, hlen, g, h0, needC_flat, v_awake06, go_sem, Int.reduceTMod, Int.reduceTDiv, Int.reduceDiv, Int.reduceMod, Int.reduceAdd, Int.reduceSub, Int.reduceMul, Int.reduceNeg, Int.reducePow, Int.reduceEq, ↓reduceIte, Nat.reduceEqDiff, Nat.reduceAdd, Nat.reduceMul, Nat.reduceLeDiff, Nat.reduceSub, Nat.reduceLT, Int.reduceToNat, Int.reduceLT, Int.reduceLE, reduceCtorEq]
    repeat' ((first | refine FK_split (fun h_ => ?_) (fun h_ => ?_) | refine GK_split (fun h_ => ?_) (fun h_ => ?_) | refine ite_both (fun h_ => ?_) (fun h_ => ?_)) <;> (try simp only [decide_eq_true_eq, decide_eq_false_iff_not, Bool.not_true, Bool.not_false, Bool.not_eq_true', Bool.not_eq_false', Bool.not_eq_eq_eq_not, Decidable.not_not] at h_) <;> (try simp only [r5_0, r5_1, r5_2, r5_3, r5_4, r5_5, r5_6, r5_7, r5_8, r5_9, r5_10, r5_11, r5_12, r5_13, r5_14, r5_15, r5_16, r5_17, r5_18, r5_19, r5_20, r5_21, r5_22, r5_23, r5_24, r5_25, r5_26, r5_27, c5, F5, hlen, g, h0, needC_flat, v_awake06, h_, go_sem, Int.reduceTMod, Int.reduceTDiv, Int.reduceDiv, Int.reduceMod, Int.reduceAdd, Int.reduceSub, Int.reduceMul, Int.reduceNeg, Int.reducePow, Int.reduceEq, ↓reduceIte, Nat.reduceEqDiff, Nat.reduceAdd, Nat.reduceMul, Nat.reduceLeDiff, Nat.reduceSub, Nat.reduceLT, Int.reduceToNat, Int.reduceLT, Int.reduceLE, reduceCtorEq]))
  try simp only [F5, c5, r5_0, r5_1, r5_3, hlen, g, go_sem, Int.reduceTMod, Int.reduceTDiv, Int.reduceDiv, Int.reduceMod, Int.reduceAdd, Int.reduceSub, Int.reduceMul, Int.reduceNeg, Int.reducePow, Int.reduceEq, ↓reduceIte, Nat.reduceEqDiff, Nat.reduceAdd, Nat.reduceMul, Nat.reduceLeDiff, Nat.reduceSub, Nat.reduceLT, Int.reduceToNat, Int.reduceLT, Int.reduceLE, reduceCtorEq]
  repeat' ((first | refine FK_split (fun h_ => ?_) (fun h_ => ?_) | refine GK_split (fun h_ => ?_) (fun h_ => ?_) | refine ite_both (fun h_ => ?_) (fun h_ => ?_)) <;> (try simp only [decide_eq_true_eq, decide_eq_false_iff_not, Bool.not_true, Bool.not_false, Bool.not_eq_true', Bool.not_eq_false', Bool.not_eq_eq_eq_not, Decidable.not_not] at h_) <;> (try simp only [F5, c5, r5_0, r5_1, r5_3, hlen, g, h_, go_sem, Int.reduceTMod, Int.reduceTDiv, Int.reduceDiv, Int.reduceMod, Int.reduceAdd, Int.reduceSub, Int.reduceMul, Int.reduceNeg, Int.reducePow, Int.reduceEq, ↓reduceIte, Nat.reduceEqDiff, Nat.reduceAdd, Nat.reduceMul, Nat.reduceLeDiff, Nat.reduceSub, Nat.reduceLT, Int.reduceToNat, Int.reduceLT, Int.reduceLE, reduceCtorEq]))
  refine RK_callk ?_
  refine (w_ref hr.frz (by omega)).mono ?_
  rintro r1 m1 n1 ⟨ho1, hn1⟩
  rw [show max n n1 = n1 by omega]
  have hx1 : RSg (unfrz m n m1) n1 r1 l := (ho1.rl cs7).nw (fun j hj => ho1.sidge hj)
  have hz1 : (unfrz m n m1) 0 = some ⟨needC, o⟩ := by rw [unfrz_at, if_pos (by omega)]; exact h0
  have hr1 := hr.up (m' := m1) hn1
  generalize unfrz m n m1 = M1 at *
  try simp only [r5_3, r5_4, go_sem, Int.reduceTMod, Int.reduceTDiv, Int.reduceDiv, Int.reduceMod, Int.reduceAdd, Int.reduceSub, Int.reduceMul, Int.reduceNeg, Int.reducePow, Int.reduceEq, ↓reduceIte, Nat.reduceEqDiff, Nat.reduceAdd, Nat.reduceMul, Nat.reduceLeDiff, Nat.reduceSub, Nat.reduceLT, Int.reduceToNat, Int.reduceLT, Int.reduceLE, reduceCtorEq]
  repeat' ((first | refine FK_split (fun h_ => ?_) (fun h_ => ?_) | refine GK_split (fun h_ => ?_) (fun h_ => ?_) | refine ite_both (fun h_ => ?_) (fun h_ => ?_)) <;> (try simp only [decide_eq_true_eq, decide_eq_false_iff_not, Bool.not_true, Bool.not_false, Bool.not_eq_true', Bool.not_eq_false', Bool.not_eq_eq_eq_not, Decidable.not_not] at h_) <;> (try simp only [r5_3, r5_4, h_, go_sem, Int.reduceTMod, Int.reduceTDiv, Int.reduceDiv, Int.reduceMod, Int.reduceAdd, Int.reduceSub, Int.reduceMul, Int.reduceNeg, Int.reducePow, Int.reduceEq, ↓reduceIte, Nat.reduceEqDiff, Nat.reduceAdd, Nat.reduceMul, Nat.reduceLeDiff, Nat.reduceSub, Nat.reduceLT, Int.reduceToNat, Int.reduceLT, Int.reduceLE, reduceCtorEq]))
  refine RK_callk ?_
  have no : ∀ (h : atE l i ≠ 0 ∨ atE l i = 0 ∧ ∃ s, l[i.toNat]? = some s ∧ (s.k = 1 ∨ s.k = 5)), Fn TA 18 [.one c, RI i] (frz M1) n1 (fun r' m' n' => r' = .tup [rnil, RI (noE l i)] ∧ n' = n1) :=
    fun h => w_SplitNo i hr1.frz (by rw [frz_at, hz1]; rfl) (by omega) h
  by_cases hk : chkP l = 0
  case neg =>
    have hat : atE l i = chkP l := if_neg hk
    have hne : atE l i ≠ 0 := by rw [hat]; exact hk
    have he : noE l i = chkP l := (if_neg hne).trans hat
    refine (no (Or.inl hne)).mono ?_
    rintro _ m2 n2 ⟨rfl, rfl⟩
    rw [show max n2 n2 = n2 by omega, he]
    have hx2 := hx1.up (m' := m2) (Nat.le_refl n2)
    have hz2 : unfrz M1 n2 m2 0 = some ⟨needC, o⟩ := by rw [unfrz_at, if_pos (by omega)]; exact hz1
    generalize unfrz M1 n2 m2 = M2 at *
    have vC := v_rCheck hx2.frz
    try simp only [r5_0, r5_1, r5_2, r5_3, r5_4, r5_5, r5_6, r5_7, r5_8, r5_9, r5_10, r5_11, r5_12, r5_13, r5_14, r5_15, r5_16, r5_17, r5_18, r5_19, r5_20, r5_21, r5_22, r5_23, r5_24, r5_25, r5_26, r5_27, c5, F5, vC, hk, a1, hz2, needC_flat, v_awake06, go_sem, Int.reduceTMod, Int.reduceTDiv, Int.reduceDiv, Int.reduceMod, Int.reduceAdd, Int.reduceSub, Int.reduceMul, Int.reduceNeg, Int.reducePow, Int.reduceEq, ↓reduceIte, Nat.reduceEqDiff, Nat.reduceAdd, Nat.reduceMul, Nat.reduceLeDiff, Nat.reduceSub, Nat.reduceLT, Int.reduceToNat, Int.reduceLT, Int.reduceLE, reduceCtorEq]
    repeat' ((first | refine FK_split (fun h_ => ?_) (fun h_ => ?_) | refine GK_split (fun h_ => ?_) (fun h_ => ?_) | refine ite_both (fun h_ => ?_) (fun h_ => ?_)) <;> (try simp only [decide_eq_true_eq, decide_eq_false_iff_not, Bool.not_true, Bool.not_false, Bool.not_eq_true', Bool.not_eq_false', Bool.not_eq_eq_eq_not, Decidable.not_not] at h_) <;> (try simp only [r5_0, r5_1, r5_2, r5_3, r5_4, r5_5, r5_6, r5_7, r5_8, r5_9, r5_10, r5_11, r5_12, r5_13, r5_14, r5_15, r5_16, r5_17, r5_18, r5_19, r5_20, r5_21, r5_22, r5_23, r5_24, r5_25, r5_26, r5_27, c5, F5, vC, hk, a1, hz2, needC_flat, v_awake06, h_, go_sem, Int.reduceTMod, Int.reduceTDiv, Int.reduceDiv, Int.reduceMod, Int.reduceAdd, Int.reduceSub, Int.reduceMul, Int.reduceNeg, Int.reducePow, Int.reduceEq, ↓reduceIte, Nat.reduceEqDiff, Nat.reduceAdd, Nat.reduceMul, Nat.reduceLeDiff, Nat.reduceSub, Nat.reduceLT, Int.reduceToNat, Int.reduceLT, Int.reduceLE, reduceCtorEq]))
  by_cases hi : i < 0 ∨ (l.length : Int) ≤ i
  · have hat : atE l i = 30 := by unfold atE; rw [if_pos hk, if_pos hi]
    have hne : atE l i ≠ 0 := by rw [hat]; decide
    have he : noE l i = 30 := (if_neg hne).trans hat
    refine (no (Or.inl hne)).mono ?_
    rintro _ m2 n2 ⟨rfl, rfl⟩
    rw [show max n2 n2 = n2 by omega, he]
    have hx2 := hx1.up (m' := m2) (Nat.le_refl n2)
    have hr2 := hr1.up (m' := m2) (Nat.le_refl n2)
    have hz2 : unfrz M1 n2 m2 0 = some ⟨needC, o⟩ := by rw [unfrz_at, if_pos (by omega)]; exact hz1
    generalize unfrz M1 n2 m2 = M2 at *
    have vC := v_rCheck hx2.frz
    have hl2 := hr2.len
    by_cases hi1 : i < 0
    · skip
      try simp only [r5_0, r5_1, r5_2, r5_3, r5_4, r5_5, r5_6, r5_7, r5_8, r5_9, r5_10, r5_11, r5_12, r5_13, r5_14, r5_15, r5_16, r5_17, r5_18, r5_19, r5_20, r5_21, r5_22, r5_23, r5_24, r5_25, r5_26, r5_27, c5, F5, vC, hk, hi1, hl2, a1, hz2, needC_flat, v_awake06, go_sem, Int.reduceTMod, Int.reduceTDiv, Int.reduceDiv, Int.reduceMod, Int.reduceAdd, Int.reduceSub, Int.reduceMul, Int.reduceNeg, Int.reducePow, Int.reduceEq, ↓reduceIte, Nat.reduceEqDiff, Nat.reduceAdd, Nat.reduceMul, Nat.reduceLeDiff, Nat.reduceSub, Nat.reduceLT, Int.reduceToNat, Int.reduceLT, Int.reduceLE, reduceCtorEq]
      repeat' ((first | refine FK_split (fun h_ => ?_) (fun h_ => ?_) | refine GK_split (fun h_ => ?_) (fun h_ => ?_) | refine ite_both (fun h_ => ?_) (fun h_ => ?_)) <;> (try simp only [decide_eq_true_eq, decide_eq_false_iff_not, Bool.not_true, Bool.not_false, Bool.not_eq_true', Bool.not_eq_false', Bool.not_eq_eq_eq_not, Decidable.not_not] at h_) <;> (try simp only [r5_0, r5_1, r5_2, r5_3, r5_4, r5_5, r5_6, r5_7, r5_8, r5_9, r5_10, r5_11, r5_12, r5_13, r5_14, r5_15, r5_16, r5_17, r5_18, r5_19, r5_20, r5_21, r5_22, r5_23, r5_24, r5_25, r5_26, r5_27, c5, F5, vC, hk, hi1, hl2, a1, hz2, needC_flat, v_awake06, h_, go_sem, Int.reduceTMod, Int.reduceTDiv, Int.reduceDiv, Int.reduceMod, Int.reduceAdd, Int.reduceSub, Int.reduceMul, Int.reduceNeg, Int.reducePow, Int.reduceEq, ↓reduceIte, Nat.reduceEqDiff, Nat.reduceAdd, Nat.reduceMul, Nat.reduceLeDiff, Nat.reduceSub, Nat.reduceLT, Int.reduceToNat, Int.reduceLT, Int.reduceLE, reduceCtorEq]))
    · have hi2 := hi.resolve_left hi1
      try simp only [r5_0, r5_1, r5_2, r5_3, r5_4, r5_5, r5_6, r5_7, r5_8, r5_9, r5_10, r5_11, r5_12, r5_13, r5_14, r5_15, r5_16, r5_17, r5_18, r5_19, r5_20, r5_21, r5_22, r5_23, r5_24, r5_25, r5_26, r5_27, c5, F5, vC, hk, hi1, hi2, hl2, a1, hz2, needC_flat, v_awake06, go_sem, Int.reduceTMod, Int.reduceTDiv, Int.reduceDiv, Int.reduceMod, Int.reduceAdd, Int.reduceSub, Int.reduceMul, Int.reduceNeg, Int.reducePow, Int.reduceEq, ↓reduceIte, Nat.reduceEqDiff, Nat.reduceAdd, Nat.reduceMul, Nat.reduceLeDiff, Nat.reduceSub, Nat.reduceLT, Int.reduceToNat, Int.reduceLT, Int.reduceLE, reduceCtorEq]
      repeat' ((first | refine FK_split (fun h_ => ?_) (fun h_ => ?_) | refine GK_split (fun h_ => ?_) (fun h_ => ?_) | refine ite_both (fun h_ => ?_) (fun h_ => ?_)) <;> (try simp only [decide_eq_true_eq, decide_eq_false_iff_not, Bool.not_true, Bool.not_false, Bool.not_eq_true', Bool.not_eq_false', Bool.not_eq_eq_eq_not, Decidable.not_not] at h_) <;> (try simp only [r5_0, r5_1, r5_2, r5_3, r5_4, r5_5, r5_6, r5_7, r5_8, r5_9, r5_10, r5_11, r5_12, r5_13, r5_14, r5_15, r5_16, r5_17, r5_18, r5_19, r5_20, r5_21, r5_22, r5_23, r5_24, r5_25, r5_26, r5_27, c5, F5, vC, hk, hi1, hi2, hl2, a1, hz2, needC_flat, v_awake06, h_, go_sem, Int.reduceTMod, Int.reduceTDiv, Int.reduceDiv, Int.reduceMod, Int.reduceAdd, Int.reduceSub, Int.reduceMul, Int.reduceNeg, Int.reducePow, Int.reduceEq, ↓reduceIte, Nat.reduceEqDiff, Nat.reduceAdd, Nat.reduceMul, Nat.reduceLeDiff, Nat.reduceSub, Nat.reduceLT, Int.reduceToNat, Int.reduceLT, Int.reduceLE, reduceCtorEq]))
  have hi1 : ¬ i < 0 := fun h => hi (Or.inl h)
  have hi2 : ¬ (l.length : Int) ≤ i := fun h => hi (Or.inr h)
  have hat : atE l i = 0 := by unfold atE; rw [if_pos hk, if_neg hi]
  obtain ⟨a, rfl⟩ : ∃ a : Nat, i = a := ⟨i.toNat, by omega⟩
  have hal : a < l.length := by omega
  obtain ⟨s, hs⟩ : ∃ s, l[a]? = some s := ⟨l[a], List.getElem?_eq_getElem hal⟩
  have c2 : ((a : Int) < (l.length : Int)) = True := eq_true (by omega)
  have c3 : (0 ≤ (a : Int)) = True := eq_true (by omega)
  by_cases h15 : s.k = 1 ∨ s.k = 5
  · have he : noE l a = 33 := if_pos hat
    refine (no (Or.inr ⟨hat, s, hs, h15⟩)).mono ?_
    rintro _ m2 n2 ⟨rfl, rfl⟩
    rw [show max n2 n2 = n2 by omega, he]
    have hx2 := hx1.up (m' := m2) (Nat.le_refl n2)
    have hr2 := hr1.up (m' := m2) (Nat.le_refl n2)
    have hz2 : unfrz M1 n2 m2 0 = some ⟨needC, o⟩ := by rw [unfrz_at, if_pos (by omega)]; exact hz1
    generalize unfrz M1 n2 m2 = M2 at *
    have vC := v_rCheck hx2.frz
    have hl2 := hr2.len
    obtain ⟨id, off, cap, hc1, hid, hrd⟩ := hr2.at cs7 hs
    obtain ⟨b, hb1, hb2⟩ := rd_cell hrd (a := 0) (c := I s.k) rfl
    rw [Nat.add_zero] at hb2
    injection hc1 with hc1
    subst hc1
    rcases h15 with h1 | h1
    · skip
      try simp only [r5_0, r5_1, r5_2, r5_3, r5_4, r5_5, r5_6, r5_7, r5_8, r5_9, r5_10, r5_11, r5_12, r5_13, r5_14, r5_15, r5_16, r5_17, r5_18, r5_19, r5_20, r5_21, r5_22, r5_23, r5_24, r5_25, r5_26, r5_27, c5, F5, vC, hk, hi1, hi2, hl2, c2, c3, hb1, hb2, h1, a1, hz2, needC_flat, v_awake06, Int.toNat_natCast, go_sem, Int.reduceTMod, Int.reduceTDiv, Int.reduceDiv, Int.reduceMod, Int.reduceAdd, Int.reduceSub, Int.reduceMul, Int.reduceNeg, Int.reducePow, Int.reduceEq, ↓reduceIte, Nat.reduceEqDiff, Nat.reduceAdd, Nat.reduceMul, Nat.reduceLeDiff, Nat.reduceSub, Nat.reduceLT, Int.reduceToNat, Int.reduceLT, Int.reduceLE, reduceCtorEq]
      repeat' ((first | refine FK_split (fun h_ => ?_) (fun h_ => ?_) | refine GK_split (fun h_ => ?_) (fun h_ => ?_) | refine ite_both (fun h_ => ?_) (fun h_ => ?_)) <;> (try simp only [decide_eq_true_eq, decide_eq_false_iff_not, Bool.not_true, Bool.not_false, Bool.not_eq_true', Bool.not_eq_false', Bool.not_eq_eq_eq_not, Decidable.not_not] at h_) <;> (try simp only [r5_0, r5_1, r5_2, r5_3, r5_4, r5_5, r5_6, r5_7, r5_8, r5_9, r5_10, r5_11, r5_12, r5_13, r5_14, r5_15, r5_16, r5_17, r5_18, r5_19, r5_20, r5_21, r5_22, r5_23, r5_24, r5_25, r5_26, r5_27, c5, F5, vC, hk, hi1, hi2, hl2, c2, c3, hb1, hb2, h1, a1, hz2, needC_flat, v_awake06, Int.toNat_natCast, h_, go_sem, Int.reduceTMod, Int.reduceTDiv, Int.reduceDiv, Int.reduceMod, Int.reduceAdd, Int.reduceSub, Int.reduceMul, Int.reduceNeg, Int.reducePow, Int.reduceEq, ↓reduceIte, Nat.reduceEqDiff, Nat.reduceAdd, Nat.reduceMul, Nat.reduceLeDiff, Nat.reduceSub, Nat.reduceLT, Int.reduceToNat, Int.reduceLT, Int.reduceLE, reduceCtorEq]))
    · skip
      try simp only [r5_0, r5_1, r5_2, r5_3, r5_4, r5_5, r5_6, r5_7, r5_8, r5_9, r5_10, r5_11, r5_12, r5_13, r5_14, r5_15, r5_16, r5_17, r5_18, r5_19, r5_20, r5_21, r5_22, r5_23, r5_24, r5_25, r5_26, r5_27, c5, F5, vC, hk, hi1, hi2, hl2, c2, c3, hb1, hb2, h1, a1, hz2, needC_flat, v_awake06, Int.toNat_natCast, go_sem, Int.reduceTMod, Int.reduceTDiv, Int.reduceDiv, Int.reduceMod, Int.reduceAdd, Int.reduceSub, Int.reduceMul, Int.reduceNeg, Int.reducePow, Int.reduceEq, ↓reduceIte, Nat.reduceEqDiff, Nat.reduceAdd, Nat.reduceMul, Nat.reduceLeDiff, Nat.reduceSub, Nat.reduceLT, Int.reduceToNat, Int.reduceLT, Int.reduceLE, reduceCtorEq]
      repeat' ((first | refine FK_split (fun h_ => ?_) (fun h_ => ?_) | refine GK_split (fun h_ => ?_) (fun h_ => ?_) | refine ite_both (fun h_ => ?_) (fun h_ => ?_)) <;> (try simp only [decide_eq_true_eq, decide_eq_false_iff_not, Bool.not_true, Bool.not_false, Bool.not_eq_true', Bool.not_eq_false', Bool.not_eq_eq_eq_not, Decidable.not_not] at h_) <;> (try simp only [r5_0, r5_1, r5_2, r5_3, r5_4, r5_5, r5_6, r5_7, r5_8, r5_9, r5_10, r5_11, r5_12, r5_13, r5_14, r5_15, r5_16, r5_17, r5_18, r5_19, r5_20, r5_21, r5_22, r5_23, r5_24, r5_25, r5_26, r5_27, c5, F5, vC, hk, hi1, hi2, hl2, c2, c3, hb1, hb2, h1, a1, hz2, needC_flat, v_awake06, Int.toNat_natCast, h_, go_sem, Int.reduceTMod, Int.reduceTDiv, Int.reduceDiv, Int.reduceMod, Int.reduceAdd, Int.reduceSub, Int.reduceMul, Int.reduceNeg, Int.reducePow, Int.reduceEq, ↓reduceIte, Nat.reduceEqDiff, Nat.reduceAdd, Nat.reduceMul, Nat.reduceLeDiff, Nat.reduceSub, Nat.reduceLT, Int.reduceToNat, Int.reduceLT, Int.reduceLE, reduceCtorEq]))
  obtain ⟨hk1, hk5, hin, hop⟩ := ahead (d := 0) hk hs
  obtain ⟨_, q, ha0, hq, hnq, hfr, hfi⟩ := hop (fun h => h15 (Or.inl h))
  rw [hfr] at hfi
  obtain ⟨fr, hfe⟩ : ∃ fr, ptJ q ((need q.k).toNat - 1) = fr := ⟨_, rfl⟩
  rw [hfe] at hfi
  clear hfr hop
  have hk234 : s.k = 2 ∨ s.k = 3 ∨ s.k = 4 := by omega
  have k1 : (s.k = 1) = False := eq_false (by omega)
  have k5 : (s.k = 5) = False := eq_false (by omega)
  refine (w_Split (o := false) hr1.frz hc (by rw [frz_at, hz1]; rfl) (by omega) (by omega) hat hs hq ha0 hnq hfe hk234 hfi hin).mono ?_
  intro r2 m2 n2 h2
  obtain ⟨x2, rfl, hn2, hq2⟩ := h2.out (M := M1)
  rw [show max n1 n2 = n2 by omega]
  have hx2 := hx1.up (m' := m2) hn2
  have hr2 := hr1.up (m' := m2) hn2
  have hz2 : unfrz M1 n1 m2 0 = some ⟨needC, o⟩ := by rw [unfrz_at, if_pos (by omega)]; exact hz1
  generalize unfrz M1 n1 m2 = M2 at *
  have vC := v_rCheck hx2.frz
  have vP := v_Parts hx2.frz hs hq ha0 (by omega) hnq hfe hk234 hfi hin
  have hl2 := hr2.len
  obtain ⟨id, off, cap, hc1, hid, hrd⟩ := hr2.at cs7 hs
  obtain ⟨b, hb1, hb2⟩ := rd_cell hrd (a := 0) (c := I s.k) rfl
  rw [Nat.add_zero] at hb2
  injection hc1 with hc1
  subst hc1
  try simp only [c5, r5_4, r5_5, r5_6, r5_8, r5_10, r5_12, vC, vP, hk, hi1, hi2, hl2, c2, c3, hb1, hb2, k1, k5, Int.toNat_natCast, go_sem, Int.reduceTMod, Int.reduceTDiv, Int.reduceDiv, Int.reduceMod, Int.reduceAdd, Int.reduceSub, Int.reduceMul, Int.reduceNeg, Int.reducePow, Int.reduceEq, ↓reduceIte, Nat.reduceEqDiff, Nat.reduceAdd, Nat.reduceMul, Nat.reduceLeDiff, Nat.reduceSub, Nat.reduceLT, Int.reduceToNat, Int.reduceLT, Int.reduceLE, reduceCtorEq]
  repeat' ((first | refine FK_split (fun h_ => ?_) (fun h_ => ?_) | refine GK_split (fun h_ => ?_) (fun h_ => ?_) | refine ite_both (fun h_ => ?_) (fun h_ => ?_)) <;> (try simp only [decide_eq_true_eq, decide_eq_false_iff_not, Bool.not_true, Bool.not_false, Bool.not_eq_true', Bool.not_eq_false', Bool.not_eq_eq_eq_not, Decidable.not_not] at h_) <;> (try simp only [c5, r5_4, r5_5, r5_6, r5_8, r5_10, r5_12, vC, vP, hk, hi1, hi2, hl2, c2, c3, hb1, hb2, k1, k5, Int.toNat_natCast, h_, go_sem, Int.reduceTMod, Int.reduceTDiv, Int.reduceDiv, Int.reduceMod, Int.reduceAdd, Int.reduceSub, Int.reduceMul, Int.reduceNeg, Int.reducePow, Int.reduceEq, ↓reduceIte, Nat.reduceEqDiff, Nat.reduceAdd, Nat.reduceMul, Nat.reduceLeDiff, Nat.reduceSub, Nat.reduceLT, Int.reduceToNat, Int.reduceLT, Int.reduceLE, reduceCtorEq]))
  refine law5_tail (d := d) (b1 := n2) (b2 := n2 + 1) (o := o) hk hs hq ha0 hnq hfe hk234 hfi hin (by omega) (hr2.keep (by omega) (fun id hid => ?_)) (hx2.keep (by omega) (fun id hid => ?_)) (hq2.keep (by omega) (fun id hid => ?_)) ?_ (by omega) ?_ ?_ ?_ ?_ ?_ ?_ ?_ ?_ ?_ ?_
  · simp only [nadd, na_eq, na_0 hid, na_0 (show id < n2 + 1 by omega), go_sem, Int.reduceTMod, Int.reduceTDiv, Int.reduceDiv, Int.reduceMod, Int.reduceAdd, Int.reduceSub, Int.reduceMul, Int.reduceNeg, Int.reducePow, Int.reduceEq, ↓reduceIte, Nat.reduceEqDiff, Nat.reduceAdd, Nat.reduceMul, Nat.reduceLeDiff, Nat.reduceSub, Nat.reduceLT, Int.reduceToNat, Int.reduceLT, Int.reduceLE, reduceCtorEq]
  · simp only [nadd, na_eq, na_0 hid, na_0 (show id < n2 + 1 by omega), go_sem, Int.reduceTMod, Int.reduceTDiv, Int.reduceDiv, Int.reduceMod, Int.reduceAdd, Int.reduceSub, Int.reduceMul, Int.reduceNeg, Int.reducePow, Int.reduceEq, ↓reduceIte, Nat.reduceEqDiff, Nat.reduceAdd, Nat.reduceMul, Nat.reduceLeDiff, Nat.reduceSub, Nat.reduceLT, Int.reduceToNat, Int.reduceLT, Int.reduceLE, reduceCtorEq]
  · simp only [nadd, na_eq, na_0 hid, na_0 (show id < n2 + 1 by omega), go_sem, Int.reduceTMod, Int.reduceTDiv, Int.reduceDiv, Int.reduceMod, Int.reduceAdd, Int.reduceSub, Int.reduceMul, Int.reduceNeg, Int.reducePow, Int.reduceEq, ↓reduceIte, Nat.reduceEqDiff, Nat.reduceAdd, Nat.reduceMul, Nat.reduceLeDiff, Nat.reduceSub, Nat.reduceLT, Int.reduceToNat, Int.reduceLT, Int.reduceLE, reduceCtorEq]
  · simp only [nadd, na_eq, na_0 (show 0 < n2 by omega), na_0 (show 0 < n2 + 1 by omega), hz2, go_sem, Int.reduceTMod, Int.reduceTDiv, Int.reduceDiv, Int.reduceMod, Int.reduceAdd, Int.reduceSub, Int.reduceMul, Int.reduceNeg, Int.reducePow, Int.reduceEq, ↓reduceIte, Nat.reduceEqDiff, Nat.reduceAdd, Nat.reduceMul, Nat.reduceLeDiff, Nat.reduceSub, Nat.reduceLT, Int.reduceToNat, Int.reduceLT, Int.reduceLE, reduceCtorEq]
  · simp only [nadd, na_eq, go_sem, Int.reduceTMod, Int.reduceTDiv, Int.reduceDiv, Int.reduceMod, Int.reduceAdd, Int.reduceSub, Int.reduceMul, Int.reduceNeg, Int.reducePow, Int.reduceEq, ↓reduceIte, Nat.reduceEqDiff, Nat.reduceAdd, Nat.reduceMul, Nat.reduceLeDiff, Nat.reduceSub, Nat.reduceLT, Int.reduceToNat, Int.reduceLT, Int.reduceLE, reduceCtorEq]
  · simp only [nadd, na_eq, go_sem, Int.reduceTMod, Int.reduceTDiv, Int.reduceDiv, Int.reduceMod, Int.reduceAdd, Int.reduceSub, Int.reduceMul, Int.reduceNeg, Int.reducePow, Int.reduceEq, ↓reduceIte, Nat.reduceEqDiff, Nat.reduceAdd, Nat.reduceMul, Nat.reduceLeDiff, Nat.reduceSub, Nat.reduceLT, Int.reduceToNat, Int.reduceLT, Int.reduceLE, reduceCtorEq]
  · simp only [go_sem, Int.reduceTMod, Int.reduceTDiv, Int.reduceDiv, Int.reduceMod, Int.reduceAdd, Int.reduceSub, Int.reduceMul, Int.reduceNeg, Int.reducePow, Int.reduceEq, ↓reduceIte, Nat.reduceEqDiff, Nat.reduceAdd, Nat.reduceMul, Nat.reduceLeDiff, Nat.reduceSub, Nat.reduceLT, Int.reduceToNat, Int.reduceLT, Int.reduceLE, reduceCtorEq]
  · simp only [go_sem, Int.reduceTMod, Int.reduceTDiv, Int.reduceDiv, Int.reduceMod, Int.reduceAdd, Int.reduceSub, Int.reduceMul, Int.reduceNeg, Int.reducePow, Int.reduceEq, ↓reduceIte, Nat.reduceEqDiff, Nat.reduceAdd, Nat.reduceMul, Nat.reduceLeDiff, Nat.reduceSub, Nat.reduceLT, Int.reduceToNat, Int.reduceLT, Int.reduceLE, reduceCtorEq]
  · simp only [go_sem, Int.reduceTMod, Int.reduceTDiv, Int.reduceDiv, Int.reduceMod, Int.reduceAdd, Int.reduceSub, Int.reduceMul, Int.reduceNeg, Int.reducePow, Int.reduceEq, ↓reduceIte, Nat.reduceEqDiff, Nat.reduceAdd, Nat.reduceMul, Nat.reduceLeDiff, Nat.reduceSub, Nat.reduceLT, Int.reduceToNat, Int.reduceLT, Int.reduceLE, reduceCtorEq]
  · simp only [go_sem, Int.reduceTMod, Int.reduceTDiv, Int.reduceDiv, Int.reduceMod, Int.reduceAdd, Int.reduceSub, Int.reduceMul, Int.reduceNeg, Int.reducePow, Int.reduceEq, ↓reduceIte, Nat.reduceEqDiff, Nat.reduceAdd, Nat.reduceMul, Nat.reduceLeDiff, Nat.reduceSub, Nat.reduceLT, Int.reduceToNat, Int.reduceLT, Int.reduceLE, reduceCtorEq]
  · simp only [go_sem, Int.reduceTMod, Int.reduceTDiv, Int.reduceDiv, Int.reduceMod, Int.reduceAdd, Int.reduceSub, Int.reduceMul, Int.reduceNeg, Int.reducePow, Int.reduceEq, ↓reduceIte, Nat.reduceEqDiff, Nat.reduceAdd, Nat.reduceMul, Nat.reduceLeDiff, Nat.reduceSub, Nat.reduceLT, Int.reduceToNat, Int.reduceLT, Int.reduceLE, reduceCtorEq]
  · simp only [go_sem, Int.reduceTMod, Int.reduceTDiv, Int.reduceDiv, Int.reduceMod, Int.reduceAdd, Int.reduceSub, Int.reduceMul, Int.reduceNeg, Int.reducePow, Int.reduceEq, ↓reduceIte, Nat.reduceEqDiff, Nat.reduceAdd, Nat.reduceMul, Nat.reduceLeDiff, Nat.reduceSub, Nat.reduceLT, Int.reduceToNat, Int.reduceLT, Int.reduceLE, reduceCtorEq]
  · simp only [go_sem, Int.reduceTMod, Int.reduceTDiv, Int.reduceDiv, Int.reduceMod, Int.reduceAdd, Int.reduceSub, Int.reduceMul, Int.reduceNeg, Int.reducePow, Int.reduceEq, ↓reduceIte, Nat.reduceEqDiff, Nat.reduceAdd, Nat.reduceMul, Nat.reduceLeDiff, Nat.reduceSub, Nat.reduceLT, Int.reduceToNat, Int.reduceLT, Int.reduceLE, reduceCtorEq]
  · simp only [go_sem, Int.reduceTMod, Int.reduceTDiv, Int.reduceDiv, Int.reduceMod, Int.reduceAdd, Int.reduceSub, Int.reduceMul, Int.reduceNeg, Int.reducePow, Int.reduceEq, ↓reduceIte, Nat.reduceEqDiff, Nat.reduceAdd, Nat.reduceMul, Nat.reduceLeDiff, Nat.reduceSub, Nat.reduceLT, Int.reduceToNat, Int.reduceLT, Int.reduceLE, reduceCtorEq]

/- Arguments that are structs with slices in them, opened for the evaluator. Conditions: those that each theorem names. -/
open Go.RowKit Go.ChangeShapes Go.WideShapes Go.Deep
set_option linter.unusedVariables false

/-- What a cell holds that is a slice of flat elements. -/
def SlOk (w : World) (ks : List CK) (v : Value) : Prop :=
  v = .slice none 0 0 ∨ ∃ b o len cap vs, v = .slice (some ⟨b, o, none⟩) len cap ∧ b < w.heap.size ∧ len ≤ cap ∧ cap ≤ maxLen ∧ RowsOk ks cap vs ∧ ∀ (i : Nat) (x : Value), vs[i]? = some x → w.cell? ⟨b, o + i, none⟩ = some x

/-- A slice cell, laid into the evaluator's memory under the number n. -/
theorem mix_lay {ρ : Loc} {n : Nat} {w : World} {m : Mem} (hm : MRel ρ n w m) (hh : Held m) {ks : List CK} {v : Value} (h : SlOk w ks v) :
    ∃ (ρ' : Loc) (n' : Nat) (m' : Mem) (c : Cell), MRel ρ' n' w m' ∧ Held m' ∧ Le ρ n w ρ' n' w ∧ CRel ρ' n' w c v ∧ (∀ id, id < n → m' id = m id) ∧ n' = n + 1 ∧
      ((c = .sc (.slice none 0 0) ∧ v = .slice none 0 0) ∨ ∃ len cap vs, c = .sl n 0 len none ks.length ∧ len ≤ cap ∧ cap ≤ maxLen ∧ RowsOk ks cap vs ∧ m' n = some ⟨vs.map .sc, false⟩) := by
  rcases h with rfl | ⟨b, o, len, cap, vs, rfl, hb, hl, hm2, hr, hc⟩
  · have hmm : MRel ρ (n + 1) w m := by
      refine ⟨fun id bl h => by have := hm.lt id bl h; omega, hm.blk, fun id bl h i c hi => ?_, hm.soft, hm.apart⟩
      obtain ⟨x, h1, h2⟩ := hm.cells id bl h i c hi
      exact ⟨x, h1, CRel.mono ⟨by omega, fun _ _ => rfl, fun _ h => h⟩ _ _ h2⟩
    exact ⟨ρ, n + 1, m, .sc (.slice none 0 0), hmm, hh, ⟨by omega, fun _ _ => rfl, fun _ h => h⟩, by simp [CRel, Value.oneCell'], fun _ _ => rfl, rfl, Or.inl ⟨rfl, rfl⟩⟩
  · have hlen : vs.length = cap * ks.length := by
      have := hr.len
      simpa using this
    have hs := addSl (ρ := ρ) (n := n) (w := w) (len := len) (sz := ks.length) hl hlen hc
    exact ⟨atL ρ n b o, n + 1, _, .sl n 0 len none ks.length, addRow hm hh hb hr hc, held_upd hh n _, atL_le, hs, fun id hid => upd_ne _ _ (by omega), rfl, Or.inr ⟨len, cap, vs, rfl, hl, hm2, hr, upd_same _ _ _⟩⟩

/- Rows of segments as_ arguments; the row PathChecks. Conditions: those that each theorem names. -/
open Go Go.Proofs
open Go.RowKit Go.ChangeShapes Go.WideShapes Go.Deep
set_option linter.unusedVariables false

abbrev sgK : List CK := [.int .i64, .int .i64, .int .i64, .int .i64, .int .i64, .int .i64, .int .i64]
def needV : List Int := [0, 1, 1, 2, 3, 0]
theorem segs_of {cap : Nat} {vs : List Value} (h : RowsOk sgK cap vs) : ∃ l : List Sg, l.length = cap ∧ vs.map .sc = l.flatMap Sg.cs := by
  unfold RowsOk at h
  induction cap generalizing vs with
  | zero => simp only [List.replicate_zero, List.flatten_nil, CksOk] at h; subst h; exact ⟨[], rfl, rfl⟩
  | succ k ih =>
    rw [List.replicate_succ, List.flatten_cons] at h
    simp only [List.cons_append, List.nil_append, CksOk] at h
    obtain ⟨x0, _, rfl, _, x1, _, rfl, _, x2, _, rfl, _, x3, _, rfl, _, x4, _, rfl, _, x5, _, rfl, _, x6, r, rfl, _, h3⟩ := h
    obtain ⟨l, e1, e2⟩ := ih h3
    exact ⟨⟨x0, ⟨x1, x2⟩, ⟨x3, x4⟩, ⟨x5, x6⟩⟩ :: l, by simp [e1], by simp [e2, Sg.cs]⟩
theorem flat_take7 : ∀ (l : List Sg) (k : Nat), (l.flatMap Sg.cs).take (k * 7) = (l.take k).flatMap Sg.cs := by
  intro l
  induction l with
  | nil => intro k; simp
  | cons x l ih =>
    intro k
    cases k with
    | zero => simp
    | succ k =>
      rw [show (k + 1) * 7 = k * 7 + 1 + 1 + 1 + 1 + 1 + 1 + 1 by omega]
      simp [ih k]
/-- A slice of segments, laid: it is read. -/
theorem segs_rl {m : Mem} {n : Nat} {c : Cell} {v : Value} (h : (c = .sc (.slice none 0 0) ∧ v = .slice none 0 0) ∨ ∃ len cap vs, c = .sl n 0 len none sgK.length ∧ len ≤ cap ∧ cap ≤ maxLen ∧ RowsOk sgK cap vs ∧ m n = some ⟨vs.map .sc, false⟩) :
    ∃ l : List Sg, RSg m (n + 1) (.one c) l := by
  rcases h with ⟨rfl, _⟩ | ⟨len, cap, vs, rfl, h1, _, h2, h3⟩
  · exact ⟨[], Or.inl ⟨rfl, rfl⟩⟩
  · obtain ⟨l, e1, e2⟩ := segs_of h2
    have hlen : (l.take len).length = len := by rw [List.length_take]; omega
    refine ⟨l.take len, Or.inr ⟨n, 0, none, by rw [hlen]; rfl, by omega, ?_⟩⟩
    rw [rd_of h3, hlen, e2]
    have e4 : (l.flatMap Sg.cs).length = cap * 7 := by rw [flatMap_len Sg.cs 7 cs7, e1]
    unfold rdB
    rw [if_pos (by show 0 + len * 7 ≤ (l.flatMap Sg.cs).length; rw [e4]; omega), List.drop_zero, flat_take7]
theorem hWA : ∀ fi nd, (some (53, 15) : Option (Nat × Nat)) = some (fi, nd) → WalkOK Tryd.prog 1 fi nd := fun fi nd h => by
  cases h
  exact walk_ok

/- The row PathSplits. Conditions: those that each theorem names. -/
open Go Go.Proofs
open Go.RowKit Go.ChangeShapes Go.WideShapes Go.Deep
set_option linter.unusedVariables false

theorem rowL5 (hmix : Tryd.prog.follows .mixedOrders = true) (W : World) (ht : 0 < W.heap.size ∧ ∀ j v, needV[j]? = some v → W.cell? ⟨0, j, none⟩ = some (.int .i64 v)) (v : Value) (hs : SlOk W sgK v)
    (k : Int) (hk : IntKind.i64.min ≤ k ∧ k ≤ IntKind.i64.max) (d : Int) (hd : IntKind.i64.min ≤ d ∧ d ≤ IntKind.i64.max) :
    Calls Tryd.prog 5 #[v, .int .i64 k, .int .i64 d] W (fun e w' => e = .returned (.bool true) ∧ Go.RowKit.Below W.heap.size W w') := by
  obtain ⟨ρ, n, m, c, hm, hh, hle, hc, hold, rfl, hk0⟩ := mix_lay (tab_mem (vals := needV) ht.1 ht.2) tab_held hs
  obtain ⟨l, hr⟩ := segs_rl hk0
  have hcap : capN (.one c) := by
    rcases hk0 with ⟨rfl, _⟩ | ⟨len, cap, vs, rfl, _⟩ <;> trivial
  have h0 : m 0 = some ⟨needC, false⟩ := by rw [hold 0 (by omega)]; exact upd_same _ _ _
  exact law_callsW (ng := 1) (ρ := ρ) (n := 2) hWA hmix TA_ok (law5 c l k d m 2 hr hcap (by omega) false h0) hm (tab_glob.mono hle)
    ⟨_, _, rfl, (by simpa only [RRel] using hc), _, _, rfl, ⟨rfl, rfl⟩, _, _, rfl, ⟨rfl, rfl⟩, rfl⟩ hh

end Go.Proofs.YtpleidpbapgmiaaDoor.Sy
