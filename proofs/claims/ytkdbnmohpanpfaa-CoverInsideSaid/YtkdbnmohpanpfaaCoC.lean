/- Rows of polygons; inside or not, walked. Conditions: those that each theorem names. -/
import Derived.Test.YtkdbnmohpanpfaaCoB
namespace Go.Proofs.Ytkdbnmohpanpfaa.Sy
open Go Go.Proofs
set_option linter.unusedSimpArgs false
set_option linter.unusedVariables false
set_option maxRecDepth 20000
attribute [local go_sem] XK_seq XK_block XK_skip XK_exit XK_ret XK_cond XK_reg XK_dreg XK_ureg KN_seq KN_blk KN_lp KN_chk KN_chku KN_top KN_fin KX_seq KX_lp KX_blk KX_chk KX_top KR_seq KR_blk KR_lp KR_chk KR_top KR_fin FK_true FK_false RK_nil RK_mv RK_pick RK_alloc RK_box RK_build RK_bslice RK_load1 RK_loadA RK_store RK_nilchk RK_bin RK_beq RK_eqv RK_eqnil RK_un RK_conv RK_mkfn RK_mkslice RK_slS RK_slA RK_fadr RK_fld RK_iadrA RK_iadrS RK_idxA RK_istr RK_ext RK_lenC RK_cap RK_app RK_appz RK_pre RK_cpy RK_mn RK_mx RK_len RK_carry RK_clr carryR um0 um1 ThenK_some RK_guard GK_tt GK_ff GK_tf GK_ft GK_none QK_some RK_callQ RK_callZ RK_callT TK_some VK_clo RK_callV
  evalOp evO evOs upd_at unfrz_at putE_some putE_none boolOf_b boolOf_tup Option.map_some evRes pack_one pack_two pack_three pack_none List.getD_cons_zero List.getD_cons_succ getD_nil
  Option.some.injEq exists_eq_left' Reg.cs? fillC setL List.set_cons_zero List.set_cons_succ List.length_cons List.length_nil rd_upd rd_updn rdB wr List.drop_zero List.drop_succ_cons List.take_succ_cons List.take_zero List.getElem?_cons_zero List.getElem?_cons_succ
  ix Int.toNat_zero lenO_sl lenO_nil nadd na_eq na_eq' na_lt na_ee na_ll na_ne na_ne' na_tt
attribute [local go_sem] Reg.flat_one Reg.flat_agg Reg.flat_tup flats_nil flats_cons Cell.flat_sc Cell.flat_ptr List.all_cons List.all_nil disOk safeOk safeR decide_eq_true_eq decide_eq_false_iff_not
  List.map_cons List.map_nil List.cons_append List.nil_append List.append_nil evalOp.capsOf Bool.false_bne Bool.bne_false Bool.true_bne Bool.bne_true bne_self_eq_false beq_self_eq_true Bool.not_not Bool.false_and Bool.and_false Bool.true_or Bool.or_true beq_iff_eq eqCells
  Bool.true_beq Bool.false_beq Bool.not_eq_true' Bool.not_eq_eq_eq_not Bool.not_eq_false' and_false false_and frz_at idOf noId Option.isSome_some Bool.and_eq_true
attribute [local go_sem] wr_eq bV_add bV_sub bV_mul bV_eql bV_neq bV_lss bV_leq bV_gtr bV_geq bV_quo bV_rem bV_shr bV_shl uV_not uV_neg wrapU bits_and bits_or bits_xor IntKind.bits Nat.min_eq_left Nat.min_eq_right Nat.min_self
attribute [local go_sem] bne_iff_ne Int.cast_ofNat_Int Nat.zero_add Nat.add_zero and_self and_true true_and ne_eq not_false_eq_true not_true_eq_false decide_true decide_false Bool.false_eq_true Bool.not_true Bool.not_false Bool.true_and Bool.and_true Bool.or_false Bool.false_or Bool.and_self

abbrev enc1 (c : Cell) : List Cell := [c]
theorem ce1 (c : Cell) : (enc1 c).length = 1 := rfl
/-- A row of polygons. -/
def RPP (m : Mem) (n : Nat) (r : Reg) (L : List (List Pt)) : Prop :=
  ∃ cs : List Cell, cs.length = L.length ∧ RL enc1 1 m n r cs ∧ ∀ (i : Nat) (c : Cell) (l : List Pt), cs[i]? = some c → L[i]? = some l → RPe m n (.one c) l
theorem RPP.len {m : Mem} {n : Nat} {r : Reg} {L : List (List Pt)} (h : RPP m n r L) : lenO r = some (L.length : Int) := by
  obtain ⟨cs, h1, h2, _⟩ := h
  rw [h2.len, h1]
theorem RPP.keep {m m' : Mem} {n n' : Nat} {r : Reg} {L : List (List Pt)} (h : RPP m n r L) (hn : n ≤ n') (hm : ∀ id, id < n → m' id = m id) : RPP m' n' r L := by
  obtain ⟨cs, h1, h2, h3⟩ := h
  exact ⟨cs, h1, h2.keep hn hm, fun i c l hc hl => (h3 i c l hc hl).keep hn hm⟩
theorem RPP.frz {m : Mem} {n : Nat} {r : Reg} {L : List (List Pt)} (h : RPP m n r L) : RPP (frz m) n r L := by
  obtain ⟨cs, h1, h2, h3⟩ := h
  exact ⟨cs, h1, RL.frz h2, fun i c l hc hl => (h3 i c l hc hl).frz⟩
theorem RPP.at {m : Mem} {n : Nat} {r : Reg} {L : List (List Pt)} {i : Nat} {l : List Pt} (h : RPP m n r L) (hi : L[i]? = some l) :
    ∃ id off cap b c, r = .one (.sl id off L.length cap 1) ∧ id < n ∧ m id = some b ∧ b.cells[off + i]? = some c ∧ RPe m n (.one c) l := by
  obtain ⟨cs, h1, h2, h3⟩ := h
  have hlt : i < L.length := (List.getElem?_eq_some_iff.1 hi).1
  have hc : cs[i]? = some (cs[i]'(by omega)) := List.getElem?_eq_getElem (by omega)
  obtain ⟨id, off, cap, e1, e2, e3⟩ := h2.at ce1 hc
  obtain ⟨b, h4, h5⟩ := rd_cell e3 (a := 0) (c := cs[i]'(by omega)) rfl
  rw [Nat.mul_one, Nat.add_zero] at h5
  rw [h1] at e1
  exact ⟨id, off, cap, b, _, e1, e2, h4, h5, h3 i _ l hc hi⟩
/-- The sum of the windings. -/
def wSum (L : List (List Pt)) (s : Pt) : Nat → Int
  | 0 => 0
  | i + 1 => wSum L s i + (match L[i]? with | some l => windsTo l s l.length | none => 0)
theorem wSum_bd (L : List (List Pt)) (s : Pt) (hL : ∀ l ∈ L, l.length ≤ 20) : ∀ i : Nat, -(20 * (i : Int)) ≤ wSum L s i ∧ wSum L s i ≤ 20 * i
  | 0 => by simp [wSum]
  | i + 1 => by
    have h := wSum_bd L s hL i
    rw [wSum]
    split
    · rename_i l hl
      have h1 := hL l (List.mem_of_getElem? hl)
      have h2 := winds_bd l s l.length
      omega
    · omega
theorem and_one (x : Int) : Go.bits .and .i64 x 1 = x % 2 := by
  show IntKind.i64.wrap ((BitVec.ofInt 64 x &&& BitVec.ofInt 64 1).toNat : Int) = x % 2
  have h : (BitVec.ofInt 64 x &&& BitVec.ofInt 64 1).toNat = (BitVec.ofInt 64 x).toNat % 2 := by
    rw [BitVec.toNat_and]
    exact Nat.and_one_is_mod _
  rw [h, BitVec.toNat_ofInt, IntKind.wrap_i64]
  omega
/-- Does a number of windings mean inside? -/
def inV (rule n : Int) : Bool := if rule = 1 then decide (n ≠ 0) else if rule = 2 then decide (n % 2 = 1) else false
theorem v_cin (rule n : Int) (m : Mem) (k : Nat) : callF TA 32 [RI rule, RI n] m k = some (RB (inV rule n)) := by
  refine callF_of (Fn_ofK (fn := F32) rfl (by simp [F32]) ?_)
  have ha := and_one n
  by_cases r1 : rule = 1
  · have r2 : ¬ rule = 2 := by omega
    by_cases n0 : n = 0
    · have e : inV rule n = false := by unfold inV; rw [if_pos r1]; simp [n0]
      rw [e]
      try simp only [r32_0, r32_1, c32, F32, r1, r2, n0, e, go_sem, Int.reduceTMod, Int.reduceTDiv, Int.reduceDiv, Int.reduceMod, Int.reduceAdd, Int.reduceSub, Int.reduceMul, Int.reduceNeg, Int.reducePow, Int.reduceEq, ↓reduceIte, Nat.reduceEqDiff, Nat.reduceAdd, Nat.reduceMul, Nat.reduceLeDiff, Nat.reduceSub, Nat.reduceLT, Int.reduceToNat, Int.reduceLT, Int.reduceLE, reduceCtorEq]
      repeat' ((first | refine FK_split (fun h_ => ?_) (fun h_ => ?_) | refine GK_split (fun h_ => ?_) (fun h_ => ?_) | refine ite_both (fun h_ => ?_) (fun h_ => ?_)) <;> (try simp only [decide_eq_true_eq, decide_eq_false_iff_not, Bool.not_true, Bool.not_false, Bool.not_eq_true', Bool.not_eq_false', Bool.not_eq_eq_eq_not, Decidable.not_not] at h_) <;> (try simp only [r32_0, r32_1, c32, F32, r1, r2, n0, e, h_, go_sem, Int.reduceTMod, Int.reduceTDiv, Int.reduceDiv, Int.reduceMod, Int.reduceAdd, Int.reduceSub, Int.reduceMul, Int.reduceNeg, Int.reducePow, Int.reduceEq, ↓reduceIte, Nat.reduceEqDiff, Nat.reduceAdd, Nat.reduceMul, Nat.reduceLeDiff, Nat.reduceSub, Nat.reduceLT, Int.reduceToNat, Int.reduceLT, Int.reduceLE, reduceCtorEq]))
    · have e : inV rule n = true := by unfold inV; rw [if_pos r1]; simp [n0]
      rw [e]
      try simp only [r32_0, r32_1, c32, F32, r1, r2, n0, e, go_sem, Int.reduceTMod, Int.reduceTDiv, Int.reduceDiv, Int.reduceMod, Int.reduceAdd, Int.reduceSub, Int.reduceMul, Int.reduceNeg, Int.reducePow, Int.reduceEq, ↓reduceIte, Nat.reduceEqDiff, Nat.reduceAdd, Nat.reduceMul, Nat.reduceLeDiff, Nat.reduceSub, Nat.reduceLT, Int.reduceToNat, Int.reduceLT, Int.reduceLE, reduceCtorEq]
      repeat' ((first | refine FK_split (fun h_ => ?_) (fun h_ => ?_) | refine GK_split (fun h_ => ?_) (fun h_ => ?_) | refine ite_both (fun h_ => ?_) (fun h_ => ?_)) <;> (try simp only [decide_eq_true_eq, decide_eq_false_iff_not, Bool.not_true, Bool.not_false, Bool.not_eq_true', Bool.not_eq_false', Bool.not_eq_eq_eq_not, Decidable.not_not] at h_) <;> (try simp only [r32_0, r32_1, c32, F32, r1, r2, n0, e, h_, go_sem, Int.reduceTMod, Int.reduceTDiv, Int.reduceDiv, Int.reduceMod, Int.reduceAdd, Int.reduceSub, Int.reduceMul, Int.reduceNeg, Int.reducePow, Int.reduceEq, ↓reduceIte, Nat.reduceEqDiff, Nat.reduceAdd, Nat.reduceMul, Nat.reduceLeDiff, Nat.reduceSub, Nat.reduceLT, Int.reduceToNat, Int.reduceLT, Int.reduceLE, reduceCtorEq]))
  · by_cases r2 : rule = 2
    · by_cases h2 : n % 2 = 1
      · have e : inV rule n = true := by unfold inV; rw [if_neg r1, if_pos r2]; simp [h2]
        rw [e]
        try simp only [r32_0, r32_1, c32, F32, r1, r2, ha, h2, e, go_sem, Int.reduceTMod, Int.reduceTDiv, Int.reduceDiv, Int.reduceMod, Int.reduceAdd, Int.reduceSub, Int.reduceMul, Int.reduceNeg, Int.reducePow, Int.reduceEq, ↓reduceIte, Nat.reduceEqDiff, Nat.reduceAdd, Nat.reduceMul, Nat.reduceLeDiff, Nat.reduceSub, Nat.reduceLT, Int.reduceToNat, Int.reduceLT, Int.reduceLE, reduceCtorEq]
        repeat' ((first | refine FK_split (fun h_ => ?_) (fun h_ => ?_) | refine GK_split (fun h_ => ?_) (fun h_ => ?_) | refine ite_both (fun h_ => ?_) (fun h_ => ?_)) <;> (try simp only [decide_eq_true_eq, decide_eq_false_iff_not, Bool.not_true, Bool.not_false, Bool.not_eq_true', Bool.not_eq_false', Bool.not_eq_eq_eq_not, Decidable.not_not] at h_) <;> (try simp only [r32_0, r32_1, c32, F32, r1, r2, ha, h2, e, h_, go_sem, Int.reduceTMod, Int.reduceTDiv, Int.reduceDiv, Int.reduceMod, Int.reduceAdd, Int.reduceSub, Int.reduceMul, Int.reduceNeg, Int.reducePow, Int.reduceEq, ↓reduceIte, Nat.reduceEqDiff, Nat.reduceAdd, Nat.reduceMul, Nat.reduceLeDiff, Nat.reduceSub, Nat.reduceLT, Int.reduceToNat, Int.reduceLT, Int.reduceLE, reduceCtorEq]))
      · have e : inV rule n = false := by unfold inV; rw [if_neg r1, if_pos r2]; simp [h2]
        rw [e]
        try simp only [r32_0, r32_1, c32, F32, r1, r2, ha, h2, e, go_sem, Int.reduceTMod, Int.reduceTDiv, Int.reduceDiv, Int.reduceMod, Int.reduceAdd, Int.reduceSub, Int.reduceMul, Int.reduceNeg, Int.reducePow, Int.reduceEq, ↓reduceIte, Nat.reduceEqDiff, Nat.reduceAdd, Nat.reduceMul, Nat.reduceLeDiff, Nat.reduceSub, Nat.reduceLT, Int.reduceToNat, Int.reduceLT, Int.reduceLE, reduceCtorEq]
        repeat' ((first | refine FK_split (fun h_ => ?_) (fun h_ => ?_) | refine GK_split (fun h_ => ?_) (fun h_ => ?_) | refine ite_both (fun h_ => ?_) (fun h_ => ?_)) <;> (try simp only [decide_eq_true_eq, decide_eq_false_iff_not, Bool.not_true, Bool.not_false, Bool.not_eq_true', Bool.not_eq_false', Bool.not_eq_eq_eq_not, Decidable.not_not] at h_) <;> (try simp only [r32_0, r32_1, c32, F32, r1, r2, ha, h2, e, h_, go_sem, Int.reduceTMod, Int.reduceTDiv, Int.reduceDiv, Int.reduceMod, Int.reduceAdd, Int.reduceSub, Int.reduceMul, Int.reduceNeg, Int.reducePow, Int.reduceEq, ↓reduceIte, Nat.reduceEqDiff, Nat.reduceAdd, Nat.reduceMul, Nat.reduceLeDiff, Nat.reduceSub, Nat.reduceLT, Int.reduceToNat, Int.reduceLT, Int.reduceLE, reduceCtorEq]))
    · have e : inV rule n = false := by unfold inV; rw [if_neg r1, if_neg r2]
      rw [e]
      try simp only [r32_0, r32_1, c32, F32, r1, r2, e, go_sem, Int.reduceTMod, Int.reduceTDiv, Int.reduceDiv, Int.reduceMod, Int.reduceAdd, Int.reduceSub, Int.reduceMul, Int.reduceNeg, Int.reducePow, Int.reduceEq, ↓reduceIte, Nat.reduceEqDiff, Nat.reduceAdd, Nat.reduceMul, Nat.reduceLeDiff, Nat.reduceSub, Nat.reduceLT, Int.reduceToNat, Int.reduceLT, Int.reduceLE, reduceCtorEq]
      repeat' ((first | refine FK_split (fun h_ => ?_) (fun h_ => ?_) | refine GK_split (fun h_ => ?_) (fun h_ => ?_) | refine ite_both (fun h_ => ?_) (fun h_ => ?_)) <;> (try simp only [decide_eq_true_eq, decide_eq_false_iff_not, Bool.not_true, Bool.not_false, Bool.not_eq_true', Bool.not_eq_false', Bool.not_eq_eq_eq_not, Decidable.not_not] at h_) <;> (try simp only [r32_0, r32_1, c32, F32, r1, r2, e, h_, go_sem, Int.reduceTMod, Int.reduceTDiv, Int.reduceDiv, Int.reduceMod, Int.reduceAdd, Int.reduceSub, Int.reduceMul, Int.reduceNeg, Int.reducePow, Int.reduceEq, ↓reduceIte, Nat.reduceEqDiff, Nat.reduceAdd, Nat.reduceMul, Nat.reduceLeDiff, Nat.reduceSub, Nat.reduceLT, Int.reduceToNat, Int.reduceLT, Int.reduceLE, reduceCtorEq]))
theorem v_Inside (r : Reg) (L : List (List Pt)) (rule : Int) (s : Pt) (m : Mem) (n : Nat) (hr : RPP m n r L) (hn : L.length ≤ 60) (hL : ∀ l ∈ L, l.length ≤ 20) (hi : ∀ l ∈ L, l.all inP = true) (hs : inP s = true) :
    callF TA 23 [r, RI rule, .agg [I s.x, I s.y]] m n = some (RB (inV rule (wSum L s L.length))) := by
  refine callF_of (Fn_ofK (fn := F23) rfl (by simp [F23]) ?_)
  have hlen := hr.len
  try simp only [r23_0, r23_1, r23_2, r23_3, r23_4, r23_5, r23_6, r23_7, c23, F23, hlen, go_sem, Int.reduceTMod, Int.reduceTDiv, Int.reduceDiv, Int.reduceMod, Int.reduceAdd, Int.reduceSub, Int.reduceMul, Int.reduceNeg, Int.reducePow, Int.reduceEq, ↓reduceIte, Nat.reduceEqDiff, Nat.reduceAdd, Nat.reduceMul, Nat.reduceLeDiff, Nat.reduceSub, Nat.reduceLT, Int.reduceToNat, Int.reduceLT, Int.reduceLE, reduceCtorEq]
  repeat' ((first | refine FK_split (fun h_ => ?_) (fun h_ => ?_) | refine GK_split (fun h_ => ?_) (fun h_ => ?_) | refine ite_both (fun h_ => ?_) (fun h_ => ?_)) <;> (try simp only [decide_eq_true_eq, decide_eq_false_iff_not, Bool.not_true, Bool.not_false, Bool.not_eq_true', Bool.not_eq_false', Bool.not_eq_eq_eq_not, Decidable.not_not] at h_) <;> (try simp only [r23_0, r23_1, r23_2, r23_3, r23_4, r23_5, r23_6, r23_7, c23, F23, hlen, h_, go_sem, Int.reduceTMod, Int.reduceTDiv, Int.reduceDiv, Int.reduceMod, Int.reduceAdd, Int.reduceSub, Int.reduceMul, Int.reduceNeg, Int.reducePow, Int.reduceEq, ↓reduceIte, Nat.reduceEqDiff, Nat.reduceAdd, Nat.reduceMul, Nat.reduceLeDiff, Nat.reduceSub, Nat.reduceLT, Int.reduceToNat, Int.reduceLT, Int.reduceLE, reduceCtorEq]))
  refine XK_iter (inv := fun i t => t.e 12 = RI i ∧ t.e 11 = RI L.length ∧ t.e 10 = r ∧ t.e 1 = RI rule ∧ t.e 5 = .one (.ptr n 0) ∧ t.e 7 = RI (wSum L s i) ∧ t.n = n + 1 ∧ t.m = upd m n (some ⟨[I s.x, I s.y], true⟩)) L.length
    (fun K _ => ⟨fun i hi' t ht next => ?_, fun t ht => ?_⟩) 0 (by omega) _ ⟨?_, ?_, ?_, ?_, ?_, ?_, ?_, ?_⟩
  · obtain ⟨e, M, N⟩ := t
    obtain ⟨q12, q11, q10, q1, q5, q7, qn, qm⟩ := ht
    simp only at q12 q11 q10 q1 q5 q7 qn qm
    subst qn
    have hp : L[i]? = some L[i] := List.getElem?_eq_getElem hi'
    have hrM : RPP M (n + 1) r L := hr.keep (by omega) (fun id hid => by rw [qm, upd_ne _ _ (by omega)])
    have hs' : M n = some ⟨[I s.x, I s.y], true⟩ := by rw [qm, upd_same]
    obtain ⟨id, off, cap, b, c, hr1, hid, hb, hbc, hc⟩ := hrM.at hp
    have hw : wSum L s (i + 1) = wSum L s i + windsTo L[i] s L[i].length := by rw [wSum, hp]
    have b1 := wSum_bd L s hL i
    have b2 := wSum_bd L s hL (i + 1)
    have vW := v_WindsE (.one c) L[i] s (frz M) (n + 1) hc.frz (by have := hL _ (List.getElem_mem hi'); omega) (hi _ (List.getElem_mem hi')) hs
    have c2 : ((i : Int) < (L.length : Int)) = True := eq_true (by omega)
    have c3 : (0 ≤ (i : Int)) = True := eq_true (by omega)
    have c7 : IntKind.i64.wrap ((i : Int) + 1) = ((i + 1 : Nat) : Int) := wr_nat (by omega)
    have c8 : IntKind.i64.wrap (wSum L s i + windsTo L[i] s L[i].length) = wSum L s (i + 1) := (wr_eq (by omega) (by omega)).trans hw.symm
    generalize wSum L s (i + 1) = w1 at *
    generalize wSum L s i = w0 at *
    generalize L[i] = l at *
    rw [hr1] at q10
    try simp only [r23_0, r23_1, r23_2, r23_3, r23_4, r23_5, r23_6, r23_7, c23, F23, l23_0, q12, q11, q10, q5, q7, c2, c3, c7, c8, hb, hbc, hs', rd_of hs', vW, Int.toNat_natCast, Nat.mul_one, go_sem, Int.reduceTMod, Int.reduceTDiv, Int.reduceDiv, Int.reduceMod, Int.reduceAdd, Int.reduceSub, Int.reduceMul, Int.reduceNeg, Int.reducePow, Int.reduceEq, ↓reduceIte, Nat.reduceEqDiff, Nat.reduceAdd, Nat.reduceMul, Nat.reduceLeDiff, Nat.reduceSub, Nat.reduceLT, Int.reduceToNat, Int.reduceLT, Int.reduceLE, reduceCtorEq]
    repeat' ((first | refine FK_split (fun h_ => ?_) (fun h_ => ?_) | refine GK_split (fun h_ => ?_) (fun h_ => ?_) | refine ite_both (fun h_ => ?_) (fun h_ => ?_)) <;> (try simp only [decide_eq_true_eq, decide_eq_false_iff_not, Bool.not_true, Bool.not_false, Bool.not_eq_true', Bool.not_eq_false', Bool.not_eq_eq_eq_not, Decidable.not_not] at h_) <;> (try simp only [r23_0, r23_1, r23_2, r23_3, r23_4, r23_5, r23_6, r23_7, c23, F23, l23_0, q12, q11, q10, q5, q7, c2, c3, c7, c8, hb, hbc, hs', rd_of hs', vW, Int.toNat_natCast, Nat.mul_one, h_, go_sem, Int.reduceTMod, Int.reduceTDiv, Int.reduceDiv, Int.reduceMod, Int.reduceAdd, Int.reduceSub, Int.reduceMul, Int.reduceNeg, Int.reducePow, Int.reduceEq, ↓reduceIte, Nat.reduceEqDiff, Nat.reduceAdd, Nat.reduceMul, Nat.reduceLeDiff, Nat.reduceSub, Nat.reduceLT, Int.reduceToNat, Int.reduceLT, Int.reduceLE, reduceCtorEq]))
    refine next _ ⟨?_, ?_, ?_, ?_, ?_, ?_, ?_, ?_⟩
    · simp only [go_sem, Int.reduceTMod, Int.reduceTDiv, Int.reduceDiv, Int.reduceMod, Int.reduceAdd, Int.reduceSub, Int.reduceMul, Int.reduceNeg, Int.reducePow, Int.reduceEq, ↓reduceIte, Nat.reduceEqDiff, Nat.reduceAdd, Nat.reduceMul, Nat.reduceLeDiff, Nat.reduceSub, Nat.reduceLT, Int.reduceToNat, Int.reduceLT, Int.reduceLE, reduceCtorEq]
    · simp only [q11, go_sem, Int.reduceTMod, Int.reduceTDiv, Int.reduceDiv, Int.reduceMod, Int.reduceAdd, Int.reduceSub, Int.reduceMul, Int.reduceNeg, Int.reducePow, Int.reduceEq, ↓reduceIte, Nat.reduceEqDiff, Nat.reduceAdd, Nat.reduceMul, Nat.reduceLeDiff, Nat.reduceSub, Nat.reduceLT, Int.reduceToNat, Int.reduceLT, Int.reduceLE, reduceCtorEq]
    · simp only [q10, hr1, go_sem, Int.reduceTMod, Int.reduceTDiv, Int.reduceDiv, Int.reduceMod, Int.reduceAdd, Int.reduceSub, Int.reduceMul, Int.reduceNeg, Int.reducePow, Int.reduceEq, ↓reduceIte, Nat.reduceEqDiff, Nat.reduceAdd, Nat.reduceMul, Nat.reduceLeDiff, Nat.reduceSub, Nat.reduceLT, Int.reduceToNat, Int.reduceLT, Int.reduceLE, reduceCtorEq]
    · simp only [q1, go_sem, Int.reduceTMod, Int.reduceTDiv, Int.reduceDiv, Int.reduceMod, Int.reduceAdd, Int.reduceSub, Int.reduceMul, Int.reduceNeg, Int.reducePow, Int.reduceEq, ↓reduceIte, Nat.reduceEqDiff, Nat.reduceAdd, Nat.reduceMul, Nat.reduceLeDiff, Nat.reduceSub, Nat.reduceLT, Int.reduceToNat, Int.reduceLT, Int.reduceLE, reduceCtorEq]
    · simp only [q5, go_sem, Int.reduceTMod, Int.reduceTDiv, Int.reduceDiv, Int.reduceMod, Int.reduceAdd, Int.reduceSub, Int.reduceMul, Int.reduceNeg, Int.reducePow, Int.reduceEq, ↓reduceIte, Nat.reduceEqDiff, Nat.reduceAdd, Nat.reduceMul, Nat.reduceLeDiff, Nat.reduceSub, Nat.reduceLT, Int.reduceToNat, Int.reduceLT, Int.reduceLE, reduceCtorEq]
    · simp only [go_sem, Int.reduceTMod, Int.reduceTDiv, Int.reduceDiv, Int.reduceMod, Int.reduceAdd, Int.reduceSub, Int.reduceMul, Int.reduceNeg, Int.reducePow, Int.reduceEq, ↓reduceIte, Nat.reduceEqDiff, Nat.reduceAdd, Nat.reduceMul, Nat.reduceLeDiff, Nat.reduceSub, Nat.reduceLT, Int.reduceToNat, Int.reduceLT, Int.reduceLE, reduceCtorEq]
    · rfl
    · exact qm
  · obtain ⟨e, M, N⟩ := t
    obtain ⟨q12, q11, q10, q1, q5, q7, qn, qm⟩ := ht
    simp only at q12 q11 q10 q1 q5 q7 qn qm
    have c2 : ((L.length : Int) < (L.length : Int)) = False := eq_false (by omega)
    try simp only [r23_0, r23_1, r23_2, r23_3, r23_4, r23_5, r23_6, r23_7, c23, F23, l23_0, q12, q11, q1, q7, c2, v_cin, go_sem, Int.reduceTMod, Int.reduceTDiv, Int.reduceDiv, Int.reduceMod, Int.reduceAdd, Int.reduceSub, Int.reduceMul, Int.reduceNeg, Int.reducePow, Int.reduceEq, ↓reduceIte, Nat.reduceEqDiff, Nat.reduceAdd, Nat.reduceMul, Nat.reduceLeDiff, Nat.reduceSub, Nat.reduceLT, Int.reduceToNat, Int.reduceLT, Int.reduceLE, reduceCtorEq]
    repeat' ((first | refine FK_split (fun h_ => ?_) (fun h_ => ?_) | refine GK_split (fun h_ => ?_) (fun h_ => ?_) | refine ite_both (fun h_ => ?_) (fun h_ => ?_)) <;> (try simp only [decide_eq_true_eq, decide_eq_false_iff_not, Bool.not_true, Bool.not_false, Bool.not_eq_true', Bool.not_eq_false', Bool.not_eq_eq_eq_not, Decidable.not_not] at h_) <;> (try simp only [r23_0, r23_1, r23_2, r23_3, r23_4, r23_5, r23_6, r23_7, c23, F23, l23_0, q12, q11, q1, q7, c2, v_cin, h_, go_sem, Int.reduceTMod, Int.reduceTDiv, Int.reduceDiv, Int.reduceMod, Int.reduceAdd, Int.reduceSub, Int.reduceMul, Int.reduceNeg, Int.reducePow, Int.reduceEq, ↓reduceIte, Nat.reduceEqDiff, Nat.reduceAdd, Nat.reduceMul, Nat.reduceLeDiff, Nat.reduceSub, Nat.reduceLT, Int.reduceToNat, Int.reduceLT, Int.reduceLE, reduceCtorEq]))
  · simp only [go_sem, Int.reduceTMod, Int.reduceTDiv, Int.reduceDiv, Int.reduceMod, Int.reduceAdd, Int.reduceSub, Int.reduceMul, Int.reduceNeg, Int.reducePow, Int.reduceEq, ↓reduceIte, Nat.reduceEqDiff, Nat.reduceAdd, Nat.reduceMul, Nat.reduceLeDiff, Nat.reduceSub, Nat.reduceLT, Int.reduceToNat, Int.reduceLT, Int.reduceLE, reduceCtorEq]
  · simp only [go_sem, Int.reduceTMod, Int.reduceTDiv, Int.reduceDiv, Int.reduceMod, Int.reduceAdd, Int.reduceSub, Int.reduceMul, Int.reduceNeg, Int.reducePow, Int.reduceEq, ↓reduceIte, Nat.reduceEqDiff, Nat.reduceAdd, Nat.reduceMul, Nat.reduceLeDiff, Nat.reduceSub, Nat.reduceLT, Int.reduceToNat, Int.reduceLT, Int.reduceLE, reduceCtorEq]
  · simp only [go_sem, Int.reduceTMod, Int.reduceTDiv, Int.reduceDiv, Int.reduceMod, Int.reduceAdd, Int.reduceSub, Int.reduceMul, Int.reduceNeg, Int.reducePow, Int.reduceEq, ↓reduceIte, Nat.reduceEqDiff, Nat.reduceAdd, Nat.reduceMul, Nat.reduceLeDiff, Nat.reduceSub, Nat.reduceLT, Int.reduceToNat, Int.reduceLT, Int.reduceLE, reduceCtorEq]
  · simp only [go_sem, Int.reduceTMod, Int.reduceTDiv, Int.reduceDiv, Int.reduceMod, Int.reduceAdd, Int.reduceSub, Int.reduceMul, Int.reduceNeg, Int.reducePow, Int.reduceEq, ↓reduceIte, Nat.reduceEqDiff, Nat.reduceAdd, Nat.reduceMul, Nat.reduceLeDiff, Nat.reduceSub, Nat.reduceLT, Int.reduceToNat, Int.reduceLT, Int.reduceLE, reduceCtorEq]
  · simp only [go_sem, Int.reduceTMod, Int.reduceTDiv, Int.reduceDiv, Int.reduceMod, Int.reduceAdd, Int.reduceSub, Int.reduceMul, Int.reduceNeg, Int.reducePow, Int.reduceEq, ↓reduceIte, Nat.reduceEqDiff, Nat.reduceAdd, Nat.reduceMul, Nat.reduceLeDiff, Nat.reduceSub, Nat.reduceLT, Int.reduceToNat, Int.reduceLT, Int.reduceLE, reduceCtorEq]
  · simp only [wSum, go_sem, Int.reduceTMod, Int.reduceTDiv, Int.reduceDiv, Int.reduceMod, Int.reduceAdd, Int.reduceSub, Int.reduceMul, Int.reduceNeg, Int.reducePow, Int.reduceEq, ↓reduceIte, Nat.reduceEqDiff, Nat.reduceAdd, Nat.reduceMul, Nat.reduceLeDiff, Nat.reduceSub, Nat.reduceLT, Int.reduceToNat, Int.reduceLT, Int.reduceLE, reduceCtorEq]
  · rfl
  · rfl
theorem v_rInside (r : Reg) (L : List (List Pt)) (rule : Int) (s : Pt) (m : Mem) (n : Nat) (hr : RPP m n r L) (hp : ∀ (i : Nat) (id off : Nat) (cap : Option Nat) (b : Blk) (c : Cell) (l : List Pt), r = .one (.sl id off L.length cap 1) → m id = some b → b.cells[off + i]? = some c → L[i]? = some l → RPt m n (.one c) l)
    (hn : L.length ≤ 60) (hL : ∀ l ∈ L, l.length ≤ 20) (hi : ∀ l ∈ L, l.all inP = true) (hs : inP s = true) :
    callF TA 24 [r, RI rule, .agg [I s.x, I s.y]] m n = some (RB (inV rule (wSum L s L.length))) := by
  refine callF_of (Fn_ofK (fn := F24) rfl (by simp [F24]) ?_)
  have hlen := hr.len
  try simp only [r24_0, r24_1, r24_2, r24_3, r24_5, r24_4, r24_6, r24_7, r24_8, c24, F24, hlen, go_sem, Int.reduceTMod, Int.reduceTDiv, Int.reduceDiv, Int.reduceMod, Int.reduceAdd, Int.reduceSub, Int.reduceMul, Int.reduceNeg, Int.reducePow, Int.reduceEq, ↓reduceIte, Nat.reduceEqDiff, Nat.reduceAdd, Nat.reduceMul, Nat.reduceLeDiff, Nat.reduceSub, Nat.reduceLT, Int.reduceToNat, Int.reduceLT, Int.reduceLE, reduceCtorEq]
  repeat' ((first | refine FK_split (fun h_ => ?_) (fun h_ => ?_) | refine GK_split (fun h_ => ?_) (fun h_ => ?_) | refine ite_both (fun h_ => ?_) (fun h_ => ?_)) <;> (try simp only [decide_eq_true_eq, decide_eq_false_iff_not, Bool.not_true, Bool.not_false, Bool.not_eq_true', Bool.not_eq_false', Bool.not_eq_eq_eq_not, Decidable.not_not] at h_) <;> (try simp only [r24_0, r24_1, r24_2, r24_3, r24_5, r24_4, r24_6, r24_7, r24_8, c24, F24, hlen, h_, go_sem, Int.reduceTMod, Int.reduceTDiv, Int.reduceDiv, Int.reduceMod, Int.reduceAdd, Int.reduceSub, Int.reduceMul, Int.reduceNeg, Int.reducePow, Int.reduceEq, ↓reduceIte, Nat.reduceEqDiff, Nat.reduceAdd, Nat.reduceMul, Nat.reduceLeDiff, Nat.reduceSub, Nat.reduceLT, Int.reduceToNat, Int.reduceLT, Int.reduceLE, reduceCtorEq]))
  refine XK_iter (inv := fun i t => t.e 8 = RI i ∧ t.e 0 = r ∧ t.e 1 = RI rule ∧ t.e 5 = .one (.ptr n 0) ∧ t.e 7 = RI (wSum L s i) ∧ t.n = n + 1 ∧ t.m = upd m n (some ⟨[I s.x, I s.y], true⟩)) L.length
    (fun K _ => ⟨fun i hi' t ht next => ?_, fun t ht => ?_⟩) 0 (by omega) _ ⟨?_, ?_, ?_, ?_, ?_, ?_, ?_⟩
  · obtain ⟨e, M, N⟩ := t
    obtain ⟨q12, q10, q1, q5, q7, qn, qm⟩ := ht
    simp only at q12 q10 q1 q5 q7 qn qm
    subst qn
    have hpi : L[i]? = some L[i] := List.getElem?_eq_getElem hi'
    have hs' : M n = some ⟨[I s.x, I s.y], true⟩ := by rw [qm, upd_same]
    have hold : ∀ j, j < n → M j = m j := fun j hj => by rw [qm, upd_ne _ _ (by omega)]
    obtain ⟨id, off, cap, b, c, hr1, hid, hb, hbc, _⟩ := hr.at hpi
    have hc : RPt M (n + 1) (.one c) L[i] := (hp i id off cap b c _ hr1 hb hbc hpi).keep (by omega) hold
    have hb' : M id = some b := by rw [hold id hid]; exact hb
    have hw : wSum L s (i + 1) = wSum L s i + windsTo L[i] s L[i].length := by rw [wSum, hpi]
    have b1 := wSum_bd L s hL i
    have b2 := wSum_bd L s hL (i + 1)
    have vW := v_rWinds (.one c) L[i] s (frz M) (n + 1) (RL.frz hc) (by have := hL _ (List.getElem_mem hi'); omega) (hi _ (List.getElem_mem hi')) hs
    have c2 : ((i : Int) < (L.length : Int)) = True := eq_true (by omega)
    have c3 : (0 ≤ (i : Int)) = True := eq_true (by omega)
    have c7 : IntKind.i64.wrap ((i : Int) + 1) = ((i + 1 : Nat) : Int) := wr_nat (by omega)
    have c8 : IntKind.i64.wrap (wSum L s i + windsTo L[i] s L[i].length) = wSum L s (i + 1) := (wr_eq (by omega) (by omega)).trans hw.symm
    generalize wSum L s (i + 1) = w1 at *
    generalize wSum L s i = w0 at *
    generalize L[i] = l at *
    rw [hr1] at q10 hlen
    try simp only [r24_0, r24_1, r24_2, r24_3, r24_5, r24_4, r24_6, r24_7, r24_8, c24, F24, l24_0, q12, q10, q5, q7, hlen, c2, c3, c7, c8, hb', hbc, hs', rd_of hs', vW, Int.toNat_natCast, Nat.mul_one, go_sem, Int.reduceTMod, Int.reduceTDiv, Int.reduceDiv, Int.reduceMod, Int.reduceAdd, Int.reduceSub, Int.reduceMul, Int.reduceNeg, Int.reducePow, Int.reduceEq, ↓reduceIte, Nat.reduceEqDiff, Nat.reduceAdd, Nat.reduceMul, Nat.reduceLeDiff, Nat.reduceSub, Nat.reduceLT, Int.reduceToNat, Int.reduceLT, Int.reduceLE, reduceCtorEq]
    repeat' ((first | refine FK_split (fun h_ => ?_) (fun h_ => ?_) | refine GK_split (fun h_ => ?_) (fun h_ => ?_) | refine ite_both (fun h_ => ?_) (fun h_ => ?_)) <;> (try simp only [decide_eq_true_eq, decide_eq_false_iff_not, Bool.not_true, Bool.not_false, Bool.not_eq_true', Bool.not_eq_false', Bool.not_eq_eq_eq_not, Decidable.not_not] at h_) <;> (try simp only [r24_0, r24_1, r24_2, r24_3, r24_5, r24_4, r24_6, r24_7, r24_8, c24, F24, l24_0, q12, q10, q5, q7, hlen, c2, c3, c7, c8, hb', hbc, hs', rd_of hs', vW, Int.toNat_natCast, Nat.mul_one, h_, go_sem, Int.reduceTMod, Int.reduceTDiv, Int.reduceDiv, Int.reduceMod, Int.reduceAdd, Int.reduceSub, Int.reduceMul, Int.reduceNeg, Int.reducePow, Int.reduceEq, ↓reduceIte, Nat.reduceEqDiff, Nat.reduceAdd, Nat.reduceMul, Nat.reduceLeDiff, Nat.reduceSub, Nat.reduceLT, Int.reduceToNat, Int.reduceLT, Int.reduceLE, reduceCtorEq]))
    refine next _ ⟨?_, ?_, ?_, ?_, ?_, ?_, ?_⟩
    · simp only [go_sem, Int.reduceTMod, Int.reduceTDiv, Int.reduceDiv, Int.reduceMod, Int.reduceAdd, Int.reduceSub, Int.reduceMul, Int.reduceNeg, Int.reducePow, Int.reduceEq, ↓reduceIte, Nat.reduceEqDiff, Nat.reduceAdd, Nat.reduceMul, Nat.reduceLeDiff, Nat.reduceSub, Nat.reduceLT, Int.reduceToNat, Int.reduceLT, Int.reduceLE, reduceCtorEq]
    · simp only [q10, hr1, go_sem, Int.reduceTMod, Int.reduceTDiv, Int.reduceDiv, Int.reduceMod, Int.reduceAdd, Int.reduceSub, Int.reduceMul, Int.reduceNeg, Int.reducePow, Int.reduceEq, ↓reduceIte, Nat.reduceEqDiff, Nat.reduceAdd, Nat.reduceMul, Nat.reduceLeDiff, Nat.reduceSub, Nat.reduceLT, Int.reduceToNat, Int.reduceLT, Int.reduceLE, reduceCtorEq]
    · simp only [q1, go_sem, Int.reduceTMod, Int.reduceTDiv, Int.reduceDiv, Int.reduceMod, Int.reduceAdd, Int.reduceSub, Int.reduceMul, Int.reduceNeg, Int.reducePow, Int.reduceEq, ↓reduceIte, Nat.reduceEqDiff, Nat.reduceAdd, Nat.reduceMul, Nat.reduceLeDiff, Nat.reduceSub, Nat.reduceLT, Int.reduceToNat, Int.reduceLT, Int.reduceLE, reduceCtorEq]
    · simp only [q5, go_sem, Int.reduceTMod, Int.reduceTDiv, Int.reduceDiv, Int.reduceMod, Int.reduceAdd, Int.reduceSub, Int.reduceMul, Int.reduceNeg, Int.reducePow, Int.reduceEq, ↓reduceIte, Nat.reduceEqDiff, Nat.reduceAdd, Nat.reduceMul, Nat.reduceLeDiff, Nat.reduceSub, Nat.reduceLT, Int.reduceToNat, Int.reduceLT, Int.reduceLE, reduceCtorEq]
    · simp only [go_sem, Int.reduceTMod, Int.reduceTDiv, Int.reduceDiv, Int.reduceMod, Int.reduceAdd, Int.reduceSub, Int.reduceMul, Int.reduceNeg, Int.reducePow, Int.reduceEq, ↓reduceIte, Nat.reduceEqDiff, Nat.reduceAdd, Nat.reduceMul, Nat.reduceLeDiff, Nat.reduceSub, Nat.reduceLT, Int.reduceToNat, Int.reduceLT, Int.reduceLE, reduceCtorEq]
    · rfl
    · exact qm
  · obtain ⟨e, M, N⟩ := t
    obtain ⟨q12, q10, q1, q5, q7, qn, qm⟩ := ht
    simp only at q12 q10 q1 q5 q7 qn qm
    have c2 : ((L.length : Int) < (L.length : Int)) = False := eq_false (by omega)
    generalize wSum L s L.length = w at *
    by_cases r1 : rule = 1
    · have r2 : ¬ rule = 2 := by omega
      by_cases n0 : w = 0
      · have e : inV rule w = false := by unfold inV; rw [if_pos r1]; simp [n0]
        rw [e]
        try simp only [r24_0, r24_1, r24_2, r24_3, r24_5, r24_4, r24_6, r24_7, r24_8, c24, F24, l24_0, q12, q10, q1, q7, hlen, c2, r1, n0, e, go_sem, Int.reduceTMod, Int.reduceTDiv, Int.reduceDiv, Int.reduceMod, Int.reduceAdd, Int.reduceSub, Int.reduceMul, Int.reduceNeg, Int.reducePow, Int.reduceEq, ↓reduceIte, Nat.reduceEqDiff, Nat.reduceAdd, Nat.reduceMul, Nat.reduceLeDiff, Nat.reduceSub, Nat.reduceLT, Int.reduceToNat, Int.reduceLT, Int.reduceLE, reduceCtorEq]
        repeat' ((first | refine FK_split (fun h_ => ?_) (fun h_ => ?_) | refine GK_split (fun h_ => ?_) (fun h_ => ?_) | refine ite_both (fun h_ => ?_) (fun h_ => ?_)) <;> (try simp only [decide_eq_true_eq, decide_eq_false_iff_not, Bool.not_true, Bool.not_false, Bool.not_eq_true', Bool.not_eq_false', Bool.not_eq_eq_eq_not, Decidable.not_not] at h_) <;> (try simp only [r24_0, r24_1, r24_2, r24_3, r24_5, r24_4, r24_6, r24_7, r24_8, c24, F24, l24_0, q12, q10, q1, q7, hlen, c2, r1, n0, e, h_, go_sem, Int.reduceTMod, Int.reduceTDiv, Int.reduceDiv, Int.reduceMod, Int.reduceAdd, Int.reduceSub, Int.reduceMul, Int.reduceNeg, Int.reducePow, Int.reduceEq, ↓reduceIte, Nat.reduceEqDiff, Nat.reduceAdd, Nat.reduceMul, Nat.reduceLeDiff, Nat.reduceSub, Nat.reduceLT, Int.reduceToNat, Int.reduceLT, Int.reduceLE, reduceCtorEq]))
      · have e : inV rule w = true := by unfold inV; rw [if_pos r1]; simp [n0]
        rw [e]
        try simp only [r24_0, r24_1, r24_2, r24_3, r24_5, r24_4, r24_6, r24_7, r24_8, c24, F24, l24_0, q12, q10, q1, q7, hlen, c2, r1, n0, e, go_sem, Int.reduceTMod, Int.reduceTDiv, Int.reduceDiv, Int.reduceMod, Int.reduceAdd, Int.reduceSub, Int.reduceMul, Int.reduceNeg, Int.reducePow, Int.reduceEq, ↓reduceIte, Nat.reduceEqDiff, Nat.reduceAdd, Nat.reduceMul, Nat.reduceLeDiff, Nat.reduceSub, Nat.reduceLT, Int.reduceToNat, Int.reduceLT, Int.reduceLE, reduceCtorEq]
        repeat' ((first | refine FK_split (fun h_ => ?_) (fun h_ => ?_) | refine GK_split (fun h_ => ?_) (fun h_ => ?_) | refine ite_both (fun h_ => ?_) (fun h_ => ?_)) <;> (try simp only [decide_eq_true_eq, decide_eq_false_iff_not, Bool.not_true, Bool.not_false, Bool.not_eq_true', Bool.not_eq_false', Bool.not_eq_eq_eq_not, Decidable.not_not] at h_) <;> (try simp only [r24_0, r24_1, r24_2, r24_3, r24_5, r24_4, r24_6, r24_7, r24_8, c24, F24, l24_0, q12, q10, q1, q7, hlen, c2, r1, n0, e, h_, go_sem, Int.reduceTMod, Int.reduceTDiv, Int.reduceDiv, Int.reduceMod, Int.reduceAdd, Int.reduceSub, Int.reduceMul, Int.reduceNeg, Int.reducePow, Int.reduceEq, ↓reduceIte, Nat.reduceEqDiff, Nat.reduceAdd, Nat.reduceMul, Nat.reduceLeDiff, Nat.reduceSub, Nat.reduceLT, Int.reduceToNat, Int.reduceLT, Int.reduceLE, reduceCtorEq]))
    · by_cases r2 : rule = 2
      · have z2 : ((2 : Int) = 0) = False := eq_false (by decide)
        by_cases h2 : w % 2 = 1
        · have e : inV rule w = true := by unfold inV; rw [if_neg r1, if_pos r2]; simp [h2]
          rw [e]
          have t2 : (w.tmod 2 = 0) = False := eq_false (fun h => by have := (Int.dvd_iff_emod_eq_zero).1 ((Int.dvd_iff_tmod_eq_zero).2 h); omega)
          try simp only [r24_0, r24_1, r24_2, r24_3, r24_5, r24_4, r24_6, r24_7, r24_8, c24, F24, l24_0, q12, q10, q1, q7, hlen, c2, r1, r2, z2, t2, e, go_sem, Int.reduceTMod, Int.reduceTDiv, Int.reduceDiv, Int.reduceMod, Int.reduceAdd, Int.reduceSub, Int.reduceMul, Int.reduceNeg, Int.reducePow, Int.reduceEq, ↓reduceIte, Nat.reduceEqDiff, Nat.reduceAdd, Nat.reduceMul, Nat.reduceLeDiff, Nat.reduceSub, Nat.reduceLT, Int.reduceToNat, Int.reduceLT, Int.reduceLE, reduceCtorEq]
          repeat' ((first | refine FK_split (fun h_ => ?_) (fun h_ => ?_) | refine GK_split (fun h_ => ?_) (fun h_ => ?_) | refine ite_both (fun h_ => ?_) (fun h_ => ?_)) <;> (try simp only [decide_eq_true_eq, decide_eq_false_iff_not, Bool.not_true, Bool.not_false, Bool.not_eq_true', Bool.not_eq_false', Bool.not_eq_eq_eq_not, Decidable.not_not] at h_) <;> (try simp only [r24_0, r24_1, r24_2, r24_3, r24_5, r24_4, r24_6, r24_7, r24_8, c24, F24, l24_0, q12, q10, q1, q7, hlen, c2, r1, r2, z2, t2, e, h_, go_sem, Int.reduceTMod, Int.reduceTDiv, Int.reduceDiv, Int.reduceMod, Int.reduceAdd, Int.reduceSub, Int.reduceMul, Int.reduceNeg, Int.reducePow, Int.reduceEq, ↓reduceIte, Nat.reduceEqDiff, Nat.reduceAdd, Nat.reduceMul, Nat.reduceLeDiff, Nat.reduceSub, Nat.reduceLT, Int.reduceToNat, Int.reduceLT, Int.reduceLE, reduceCtorEq]))
        · have e : inV rule w = false := by unfold inV; rw [if_neg r1, if_pos r2]; simp [h2]
          rw [e]
          have t2 : (w.tmod 2 = 0) = True := eq_true ((Int.dvd_iff_tmod_eq_zero).1 ((Int.dvd_iff_emod_eq_zero).2 (by omega)))
          try simp only [r24_0, r24_1, r24_2, r24_3, r24_5, r24_4, r24_6, r24_7, r24_8, c24, F24, l24_0, q12, q10, q1, q7, hlen, c2, r1, r2, z2, t2, e, go_sem, Int.reduceTMod, Int.reduceTDiv, Int.reduceDiv, Int.reduceMod, Int.reduceAdd, Int.reduceSub, Int.reduceMul, Int.reduceNeg, Int.reducePow, Int.reduceEq, ↓reduceIte, Nat.reduceEqDiff, Nat.reduceAdd, Nat.reduceMul, Nat.reduceLeDiff, Nat.reduceSub, Nat.reduceLT, Int.reduceToNat, Int.reduceLT, Int.reduceLE, reduceCtorEq]
          repeat' ((first | refine FK_split (fun h_ => ?_) (fun h_ => ?_) | refine GK_split (fun h_ => ?_) (fun h_ => ?_) | refine ite_both (fun h_ => ?_) (fun h_ => ?_)) <;> (try simp only [decide_eq_true_eq, decide_eq_false_iff_not, Bool.not_true, Bool.not_false, Bool.not_eq_true', Bool.not_eq_false', Bool.not_eq_eq_eq_not, Decidable.not_not] at h_) <;> (try simp only [r24_0, r24_1, r24_2, r24_3, r24_5, r24_4, r24_6, r24_7, r24_8, c24, F24, l24_0, q12, q10, q1, q7, hlen, c2, r1, r2, z2, t2, e, h_, go_sem, Int.reduceTMod, Int.reduceTDiv, Int.reduceDiv, Int.reduceMod, Int.reduceAdd, Int.reduceSub, Int.reduceMul, Int.reduceNeg, Int.reducePow, Int.reduceEq, ↓reduceIte, Nat.reduceEqDiff, Nat.reduceAdd, Nat.reduceMul, Nat.reduceLeDiff, Nat.reduceSub, Nat.reduceLT, Int.reduceToNat, Int.reduceLT, Int.reduceLE, reduceCtorEq]))
      · have e : inV rule w = false := by unfold inV; rw [if_neg r1, if_neg r2]
        rw [e]
        try simp only [r24_0, r24_1, r24_2, r24_3, r24_5, r24_4, r24_6, r24_7, r24_8, c24, F24, l24_0, q12, q10, q1, q7, hlen, c2, r1, r2, e, go_sem, Int.reduceTMod, Int.reduceTDiv, Int.reduceDiv, Int.reduceMod, Int.reduceAdd, Int.reduceSub, Int.reduceMul, Int.reduceNeg, Int.reducePow, Int.reduceEq, ↓reduceIte, Nat.reduceEqDiff, Nat.reduceAdd, Nat.reduceMul, Nat.reduceLeDiff, Nat.reduceSub, Nat.reduceLT, Int.reduceToNat, Int.reduceLT, Int.reduceLE, reduceCtorEq]
        repeat' ((first | refine FK_split (fun h_ => ?_) (fun h_ => ?_) | refine GK_split (fun h_ => ?_) (fun h_ => ?_) | refine ite_both (fun h_ => ?_) (fun h_ => ?_)) <;> (try simp only [decide_eq_true_eq, decide_eq_false_iff_not, Bool.not_true, Bool.not_false, Bool.not_eq_true', Bool.not_eq_false', Bool.not_eq_eq_eq_not, Decidable.not_not] at h_) <;> (try simp only [r24_0, r24_1, r24_2, r24_3, r24_5, r24_4, r24_6, r24_7, r24_8, c24, F24, l24_0, q12, q10, q1, q7, hlen, c2, r1, r2, e, h_, go_sem, Int.reduceTMod, Int.reduceTDiv, Int.reduceDiv, Int.reduceMod, Int.reduceAdd, Int.reduceSub, Int.reduceMul, Int.reduceNeg, Int.reducePow, Int.reduceEq, ↓reduceIte, Nat.reduceEqDiff, Nat.reduceAdd, Nat.reduceMul, Nat.reduceLeDiff, Nat.reduceSub, Nat.reduceLT, Int.reduceToNat, Int.reduceLT, Int.reduceLE, reduceCtorEq]))
  · simp only [go_sem, Int.reduceTMod, Int.reduceTDiv, Int.reduceDiv, Int.reduceMod, Int.reduceAdd, Int.reduceSub, Int.reduceMul, Int.reduceNeg, Int.reducePow, Int.reduceEq, ↓reduceIte, Nat.reduceEqDiff, Nat.reduceAdd, Nat.reduceMul, Nat.reduceLeDiff, Nat.reduceSub, Nat.reduceLT, Int.reduceToNat, Int.reduceLT, Int.reduceLE, reduceCtorEq]
  · simp only [go_sem, Int.reduceTMod, Int.reduceTDiv, Int.reduceDiv, Int.reduceMod, Int.reduceAdd, Int.reduceSub, Int.reduceMul, Int.reduceNeg, Int.reducePow, Int.reduceEq, ↓reduceIte, Nat.reduceEqDiff, Nat.reduceAdd, Nat.reduceMul, Nat.reduceLeDiff, Nat.reduceSub, Nat.reduceLT, Int.reduceToNat, Int.reduceLT, Int.reduceLE, reduceCtorEq]
  · simp only [go_sem, Int.reduceTMod, Int.reduceTDiv, Int.reduceDiv, Int.reduceMod, Int.reduceAdd, Int.reduceSub, Int.reduceMul, Int.reduceNeg, Int.reducePow, Int.reduceEq, ↓reduceIte, Nat.reduceEqDiff, Nat.reduceAdd, Nat.reduceMul, Nat.reduceLeDiff, Nat.reduceSub, Nat.reduceLT, Int.reduceToNat, Int.reduceLT, Int.reduceLE, reduceCtorEq]
  · simp only [go_sem, Int.reduceTMod, Int.reduceTDiv, Int.reduceDiv, Int.reduceMod, Int.reduceAdd, Int.reduceSub, Int.reduceMul, Int.reduceNeg, Int.reducePow, Int.reduceEq, ↓reduceIte, Nat.reduceEqDiff, Nat.reduceAdd, Nat.reduceMul, Nat.reduceLeDiff, Nat.reduceSub, Nat.reduceLT, Int.reduceToNat, Int.reduceLT, Int.reduceLE, reduceCtorEq]
  · simp only [wSum, go_sem, Int.reduceTMod, Int.reduceTDiv, Int.reduceDiv, Int.reduceMod, Int.reduceAdd, Int.reduceSub, Int.reduceMul, Int.reduceNeg, Int.reducePow, Int.reduceEq, ↓reduceIte, Nat.reduceEqDiff, Nat.reduceAdd, Nat.reduceMul, Nat.reduceLeDiff, Nat.reduceSub, Nat.reduceLT, Int.reduceToNat, Int.reduceLT, Int.reduceLE, reduceCtorEq]
  · rfl
  · rfl
end Go.Proofs.Ytkdbnmohpanpfaa.Sy
