/- Stops of shades: read, compared, told right or not; both walked. Conditions: those that each theorem names. -/
import Derived.Test.YtffhhgcgnillaaaDaC
namespace Go.Proofs.Ytffhhgcgnillaaa.Sy
open Go Go.Proofs
set_option linter.unusedSimpArgs false
set_option linter.unusedVariables false
set_option maxRecDepth 20000
attribute [local go_sem] XK_seq XK_block XK_skip XK_exit XK_ret XK_cond XK_reg XK_dreg XK_ureg KN_seq KN_blk KN_lp KN_chk KN_chku KN_top KN_fin KX_seq KX_lp KX_blk KX_chk KX_top KR_seq KR_blk KR_lp KR_chk KR_top KR_fin FK_true FK_false RK_nil RK_mv RK_pick RK_alloc RK_box RK_build RK_bslice RK_load1 RK_loadA RK_store RK_nilchk RK_bin RK_beq RK_eqv RK_eqnil RK_un RK_conv RK_mkfn RK_mkslice RK_slS RK_slA RK_fadr RK_fld RK_iadrA RK_iadrS RK_idxA RK_istr RK_ext RK_lenC RK_cap RK_app RK_appz RK_pre RK_cpy RK_mn RK_mx RK_len RK_carry RK_clr carryR um0 um1 ThenK_some RK_guard GK_tt GK_ff GK_tf GK_ft GK_none QK_some RK_callQ RK_callZ RK_callT TK_some VK_clo RK_callV
  evalOp evO evOs upd_at unfrz_at putE_some putE_none boolOf_b boolOf_tup Option.map_some evRes pack_one pack_two pack_three pack_none List.getD_cons_zero List.getD_cons_succ getD_nil
  Option.some.injEq exists_eq_left' Reg.cs? fillC setL List.set_cons_zero List.set_cons_succ List.length_cons List.length_nil rd_upd rd_updn rdB wr List.drop_zero List.drop_succ_cons List.take_succ_cons List.take_zero List.getElem?_cons_zero List.getElem?_cons_succ
  ix Int.toNat_zero lenO_sl lenO_nil nadd na_eq na_eq' na_lt na_ee na_ll na_ne na_ne' na_tt
attribute [local go_sem] Reg.flat_one Reg.flat_agg Reg.flat_tup flats_nil flats_cons Cell.flat_sc Cell.flat_ptr List.all_cons List.all_nil disOk safeOk safeR decide_eq_true_eq decide_eq_false_iff_not
  List.map_cons List.map_nil List.cons_append List.nil_append List.append_nil evalOp.capsOf Bool.false_bne Bool.bne_false Bool.true_bne Bool.bne_true bne_self_eq_false beq_self_eq_true Bool.not_not Bool.false_and Bool.and_false Bool.true_or Bool.or_true beq_iff_eq eqCells
  Bool.true_beq Bool.false_beq Bool.not_eq_true' Bool.not_eq_eq_eq_not Bool.not_eq_false' and_false false_and frz_at idOf noId Option.isSome_some Bool.and_eq_true
attribute [local go_sem] wr_eq bV_add bV_sub bV_mul bV_eql bV_neq bV_lss bV_leq bV_gtr bV_geq bV_quo bV_rem bV_shr bV_shl uV_not uV_neg wrapU bits_and bits_or bits_xor IntKind.bits Nat.min_eq_left Nat.min_eq_right Nat.min_self
attribute [local go_sem] bne_iff_ne Int.cast_ofNat_Int Nat.zero_add Nat.add_zero and_self and_true true_and ne_eq not_false_eq_true not_true_eq_false decide_true decide_false Bool.false_eq_true Bool.not_true Bool.not_false Bool.true_and Bool.and_true Bool.or_false Bool.false_or Bool.and_self

abbrev U8 (x : Int) : Cell := .sc (.int .u8 x)
structure Stp where
  a : Int
  c0 : Int
  c1 : Int
  c2 : Int
  c3 : Int
  deriving DecidableEq
abbrev Stp.cs (s : Stp) : List Cell := [I s.a, U8 s.c0, U8 s.c1, U8 s.c2, U8 s.c3]
abbrev Stp.ri (s : Stp) : List Cell := [I s.a, I s.c0, I s.c1, I s.c2, I s.c3]
theorem cs5 (s : Stp) : s.cs.length = 5 := rfl
theorem ri5 (s : Stp) : s.ri.length = 5 := rfl
abbrev RSt := RL Stp.cs 5
abbrev RRi := RL Stp.ri 5
def byteB (x : Int) : Prop := 0 ≤ x ∧ x ≤ 255
def Stp.by (s : Stp) : Prop := (byteB s.c0 ∧ byteB s.c1) ∧ byteB s.c2 ∧ byteB s.c3
def crB (c0 c1 c2 c3 : Int) : Bool := decide (c0 ≤ c3) && (decide (c1 ≤ c3) && decide (c2 ≤ c3))
theorem v_CRight (c0 c1 c2 c3 : Int) (m : Mem) (n : Nat) : callF TA 19 [.agg [U8 c0, U8 c1, U8 c2, U8 c3]] m n = some (RB (crB c0 c1 c2 c3)) := by
  refine callF_of (Fn_ofK (fn := F19) rfl (by simp [F19]) ?_)
  have e : decide (mxI (mxI c0 c1) c2 ≤ c3) = crB c0 c1 c2 c3 := by
    unfold crB
    rw [← Bool.decide_and, ← Bool.decide_and]
    congr 1
    apply propext
    unfold mxI
    repeat' split
    all_goals omega
  try simp only [r19_0, r19_1, c19, F19, maxI_three, e, go_sem, Int.reduceTMod, Int.reduceTDiv, Int.reduceDiv, Int.reduceMod, Int.reduceAdd, Int.reduceSub, Int.reduceMul, Int.reduceNeg, Int.reducePow, Int.reduceEq, ↓reduceIte, Nat.reduceEqDiff, Nat.reduceAdd, Nat.reduceMul, Nat.reduceLeDiff, Nat.reduceSub, Nat.reduceLT, Int.reduceToNat, Int.reduceLT, Int.reduceLE, reduceCtorEq]
  repeat' ((first | refine FK_split (fun h_ => ?_) (fun h_ => ?_) | refine GK_split (fun h_ => ?_) (fun h_ => ?_) | refine ite_both (fun h_ => ?_) (fun h_ => ?_)) <;> (try simp only [decide_eq_true_eq, decide_eq_false_iff_not, Bool.not_true, Bool.not_false, Bool.not_eq_true', Bool.not_eq_false', Bool.not_eq_eq_eq_not, Decidable.not_not] at h_) <;> (try simp only [r19_0, r19_1, c19, F19, maxI_three, e, h_, go_sem, Int.reduceTMod, Int.reduceTDiv, Int.reduceDiv, Int.reduceMod, Int.reduceAdd, Int.reduceSub, Int.reduceMul, Int.reduceNeg, Int.reducePow, Int.reduceEq, ↓reduceIte, Nat.reduceEqDiff, Nat.reduceAdd, Nat.reduceMul, Nat.reduceLeDiff, Nat.reduceSub, Nat.reduceLT, Int.reduceToNat, Int.reduceLT, Int.reduceLE, reduceCtorEq]))
theorem v_rCRight (c0 c1 c2 c3 : Int) (m : Mem) (n : Nat) : callF TA 25 [.agg [I c0, I c1, I c2, I c3]] m n = some (RB (crB c0 c1 c2 c3)) := by
  refine callF_of (Fn_ofK (fn := F25) rfl (by simp [F25]) ?_)
  unfold crB
  try simp only [r25_0, r25_1, c25, F25, go_sem, Int.reduceTMod, Int.reduceTDiv, Int.reduceDiv, Int.reduceMod, Int.reduceAdd, Int.reduceSub, Int.reduceMul, Int.reduceNeg, Int.reducePow, Int.reduceEq, ↓reduceIte, Nat.reduceEqDiff, Nat.reduceAdd, Nat.reduceMul, Nat.reduceLeDiff, Nat.reduceSub, Nat.reduceLT, Int.reduceToNat, Int.reduceLT, Int.reduceLE, reduceCtorEq]
  repeat' ((first | refine FK_split (fun h_ => ?_) (fun h_ => ?_) | refine GK_split (fun h_ => ?_) (fun h_ => ?_) | refine ite_both (fun h_ => ?_) (fun h_ => ?_)) <;> (try simp only [decide_eq_true_eq, decide_eq_false_iff_not, Bool.not_true, Bool.not_false, Bool.not_eq_true', Bool.not_eq_false', Bool.not_eq_eq_eq_not, Decidable.not_not] at h_) <;> (try simp only [r25_0, r25_1, c25, F25, h_, go_sem, Int.reduceTMod, Int.reduceTDiv, Int.reduceDiv, Int.reduceMod, Int.reduceAdd, Int.reduceSub, Int.reduceMul, Int.reduceNeg, Int.reducePow, Int.reduceEq, ↓reduceIte, Nat.reduceEqDiff, Nat.reduceAdd, Nat.reduceMul, Nat.reduceLeDiff, Nat.reduceSub, Nat.reduceLT, Int.reduceToNat, Int.reduceLT, Int.reduceLE, reduceCtorEq]))
theorem v_refColor {c0 c1 c2 c3 : Int} (h0 : byteB c0) (h1 : byteB c1) (h2 : byteB c2) (h3 : byteB c3) (m : Mem) (n : Nat) : callF TA 13 [.agg [U8 c0, U8 c1, U8 c2, U8 c3]] m n = some (.agg [I c0, I c1, I c2, I c3]) := by
  refine callF_of (Fn_ofK (fn := F13) rfl (by simp [F13]) ?_)
  have w : ∀ x, byteB x → IntKind.i64.wrap x = x := fun x h => by unfold byteB at h; exact wr_eq (by omega) (by omega)
  try simp only [r13_0, r13_1, c13, F13, w c0 h0, w c1 h1, w c2 h2, w c3 h3, go_sem, Int.reduceTMod, Int.reduceTDiv, Int.reduceDiv, Int.reduceMod, Int.reduceAdd, Int.reduceSub, Int.reduceMul, Int.reduceNeg, Int.reducePow, Int.reduceEq, ↓reduceIte, Nat.reduceEqDiff, Nat.reduceAdd, Nat.reduceMul, Nat.reduceLeDiff, Nat.reduceSub, Nat.reduceLT, Int.reduceToNat, Int.reduceLT, Int.reduceLE, reduceCtorEq]
  repeat' ((first | refine FK_split (fun h_ => ?_) (fun h_ => ?_) | refine GK_split (fun h_ => ?_) (fun h_ => ?_) | refine ite_both (fun h_ => ?_) (fun h_ => ?_)) <;> (try simp only [decide_eq_true_eq, decide_eq_false_iff_not, Bool.not_true, Bool.not_false, Bool.not_eq_true', Bool.not_eq_false', Bool.not_eq_eq_eq_not, Decidable.not_not] at h_) <;> (try simp only [r13_0, r13_1, c13, F13, w c0 h0, w c1 h1, w c2 h2, w c3 h3, h_, go_sem, Int.reduceTMod, Int.reduceTDiv, Int.reduceDiv, Int.reduceMod, Int.reduceAdd, Int.reduceSub, Int.reduceMul, Int.reduceNeg, Int.reducePow, Int.reduceEq, ↓reduceIte, Nat.reduceEqDiff, Nat.reduceAdd, Nat.reduceMul, Nat.reduceLeDiff, Nat.reduceSub, Nat.reduceLT, Int.reduceToNat, Int.reduceLT, Int.reduceLE, reduceCtorEq]))
theorem v_refStops (r : Reg) (l : List Stp) (m : Mem) (n : Nat) (hr : RSt m n r l) (hb : ∀ s ∈ l, s.by) (hl : l.length < 4294967296) :
    Fn TA 15 [r] m n (fun r' m' n' => OL Stp.ri 5 n m' n' r' l ∧ n ≤ n') := by
  refine Fn_ofK (fn := F15) rfl (by simp [F15]) ?_
  have hlen := hr.len
  try simp only [r15_0, r15_1, r15_2, r15_3, r15_4, r15_5, r15_6, r15_7, c15, F15, hlen, go_sem, Int.reduceTMod, Int.reduceTDiv, Int.reduceDiv, Int.reduceMod, Int.reduceAdd, Int.reduceSub, Int.reduceMul, Int.reduceNeg, Int.reducePow, Int.reduceEq, ↓reduceIte, Nat.reduceEqDiff, Nat.reduceAdd, Nat.reduceMul, Nat.reduceLeDiff, Nat.reduceSub, Nat.reduceLT, Int.reduceToNat, Int.reduceLT, Int.reduceLE, reduceCtorEq]
  repeat' ((first | refine FK_split (fun h_ => ?_) (fun h_ => ?_) | refine GK_split (fun h_ => ?_) (fun h_ => ?_) | refine ite_both (fun h_ => ?_) (fun h_ => ?_)) <;> (try simp only [decide_eq_true_eq, decide_eq_false_iff_not, Bool.not_true, Bool.not_false, Bool.not_eq_true', Bool.not_eq_false', Bool.not_eq_eq_eq_not, Decidable.not_not] at h_) <;> (try simp only [r15_0, r15_1, r15_2, r15_3, r15_4, r15_5, r15_6, r15_7, c15, F15, hlen, h_, go_sem, Int.reduceTMod, Int.reduceTDiv, Int.reduceDiv, Int.reduceMod, Int.reduceAdd, Int.reduceSub, Int.reduceMul, Int.reduceNeg, Int.reducePow, Int.reduceEq, ↓reduceIte, Nat.reduceEqDiff, Nat.reduceAdd, Nat.reduceMul, Nat.reduceLeDiff, Nat.reduceSub, Nat.reduceLT, Int.reduceToNat, Int.reduceLT, Int.reduceLE, reduceCtorEq]))
  refine XK_iter (inv := fun i s => s.e 8 = RI i ∧ s.e 7 = RI l.length ∧ s.e 6 = r ∧ n ≤ s.n ∧ (∀ id, id < n → s.m id = m id) ∧ OL Stp.ri 5 n s.m s.n (s.e 3) (l.take i)) l.length
    (fun L _ => ⟨fun i hi s hs next => ?_, fun s hs => ?_⟩) 0 (by omega) _ ?_
  · obtain ⟨e, M, N⟩ := s
    obtain ⟨q8, q7, q6, qn, qm, qo⟩ := hs
    simp only at q8 q7 q6 qn qm qo
    have hp : l[i]? = some l[i] := List.getElem?_eq_getElem hi
    have hbp := hb l[i] (List.getElem_mem hi)
    obtain ⟨id, off, cap, hr1, hid, hrd⟩ := hr.at cs5 hp
    have hts : l.take (i + 1) = l.take i ++ [l[i]] := by rw [List.take_add_one, hp]; rfl
    generalize l[i] = p at *
    have c2 : ((i : Int) < (l.length : Int)) = True := eq_true (by omega)
    have c3 : (0 ≤ (i : Int)) = True := eq_true (by omega)
    have c7 : IntKind.i64.wrap ((i : Int) + 1) = ((i + 1 : Nat) : Int) := wr_nat (by omega)
    rw [hr1] at q6
    rw [show rd m id (off + i * 5) 5 = rd M id (off + i * 5) 5 by unfold rd; rw [qm id hid]] at hrd
    have hidN : id < N := by omega
    have n1 := na_0 hidN
    have vc := v_refColor hbp.1.1 hbp.1.2 hbp.2.1 hbp.2.2
    try simp only [r15_0, r15_1, r15_2, r15_3, r15_4, r15_5, r15_6, r15_7, c15, F15, l15_0, q8, q7, q6, c2, c3, c7, hrd, n1, vc, Int.toNat_natCast, go_sem, Int.reduceTMod, Int.reduceTDiv, Int.reduceDiv, Int.reduceMod, Int.reduceAdd, Int.reduceSub, Int.reduceMul, Int.reduceNeg, Int.reducePow, Int.reduceEq, ↓reduceIte, Nat.reduceEqDiff, Nat.reduceAdd, Nat.reduceMul, Nat.reduceLeDiff, Nat.reduceSub, Nat.reduceLT, Int.reduceToNat, Int.reduceLT, Int.reduceLE, reduceCtorEq]
    repeat' ((first | refine FK_split (fun h_ => ?_) (fun h_ => ?_) | refine GK_split (fun h_ => ?_) (fun h_ => ?_) | refine ite_both (fun h_ => ?_) (fun h_ => ?_)) <;> (try simp only [decide_eq_true_eq, decide_eq_false_iff_not, Bool.not_true, Bool.not_false, Bool.not_eq_true', Bool.not_eq_false', Bool.not_eq_eq_eq_not, Decidable.not_not] at h_) <;> (try simp only [r15_0, r15_1, r15_2, r15_3, r15_4, r15_5, r15_6, r15_7, c15, F15, l15_0, q8, q7, q6, c2, c3, c7, hrd, n1, vc, Int.toNat_natCast, h_, go_sem, Int.reduceTMod, Int.reduceTDiv, Int.reduceDiv, Int.reduceMod, Int.reduceAdd, Int.reduceSub, Int.reduceMul, Int.reduceNeg, Int.reducePow, Int.reduceEq, ↓reduceIte, Nat.reduceEqDiff, Nat.reduceAdd, Nat.reduceMul, Nat.reduceLeDiff, Nat.reduceSub, Nat.reduceLT, Int.reduceToNat, Int.reduceLT, Int.reduceLE, reduceCtorEq]))
    refine K_push ri5 (by decide) (p := p) (o := true) qo (by omega) (fun id h1 h2 => by simp only [na_0 h2, na_ne h2, go_sem, Int.reduceTMod, Int.reduceTDiv, Int.reduceDiv, Int.reduceMod, Int.reduceAdd, Int.reduceSub, Int.reduceMul, Int.reduceNeg, Int.reducePow, Int.reduceEq, ↓reduceIte, Nat.reduceEqDiff, Nat.reduceAdd, Nat.reduceMul, Nat.reduceLeDiff, Nat.reduceSub, Nat.reduceLT, Int.reduceToNat, Int.reduceLT, Int.reduceLE, reduceCtorEq]) (by simp only [go_sem, Int.reduceTMod, Int.reduceTDiv, Int.reduceDiv, Int.reduceMod, Int.reduceAdd, Int.reduceSub, Int.reduceMul, Int.reduceNeg, Int.reducePow, Int.reduceEq, ↓reduceIte, Nat.reduceEqDiff, Nat.reduceAdd, Nat.reduceMul, Nat.reduceLeDiff, Nat.reduceSub, Nat.reduceLT, Int.reduceToNat, Int.reduceLT, Int.reduceLE, reduceCtorEq]) (by rw [List.length_take]; omega) (by omega) ?_
    intro r' m' ho h1 h2
    try simp only [r15_0, r15_1, r15_2, r15_3, r15_4, r15_5, r15_6, r15_7, c15, F15, q8, q7, q6, c7, go_sem, Int.reduceTMod, Int.reduceTDiv, Int.reduceDiv, Int.reduceMod, Int.reduceAdd, Int.reduceSub, Int.reduceMul, Int.reduceNeg, Int.reducePow, Int.reduceEq, ↓reduceIte, Nat.reduceEqDiff, Nat.reduceAdd, Nat.reduceMul, Nat.reduceLeDiff, Nat.reduceSub, Nat.reduceLT, Int.reduceToNat, Int.reduceLT, Int.reduceLE, reduceCtorEq]
    repeat' ((first | refine FK_split (fun h_ => ?_) (fun h_ => ?_) | refine GK_split (fun h_ => ?_) (fun h_ => ?_) | refine ite_both (fun h_ => ?_) (fun h_ => ?_)) <;> (try simp only [decide_eq_true_eq, decide_eq_false_iff_not, Bool.not_true, Bool.not_false, Bool.not_eq_true', Bool.not_eq_false', Bool.not_eq_eq_eq_not, Decidable.not_not] at h_) <;> (try simp only [r15_0, r15_1, r15_2, r15_3, r15_4, r15_5, r15_6, r15_7, c15, F15, q8, q7, q6, c7, h_, go_sem, Int.reduceTMod, Int.reduceTDiv, Int.reduceDiv, Int.reduceMod, Int.reduceAdd, Int.reduceSub, Int.reduceMul, Int.reduceNeg, Int.reducePow, Int.reduceEq, ↓reduceIte, Nat.reduceEqDiff, Nat.reduceAdd, Nat.reduceMul, Nat.reduceLeDiff, Nat.reduceSub, Nat.reduceLT, Int.reduceToNat, Int.reduceLT, Int.reduceLE, reduceCtorEq]))
    refine next _ ⟨?_, ?_, ?_, ?_, ?_, ?_⟩
    · simp only [go_sem, Int.reduceTMod, Int.reduceTDiv, Int.reduceDiv, Int.reduceMod, Int.reduceAdd, Int.reduceSub, Int.reduceMul, Int.reduceNeg, Int.reducePow, Int.reduceEq, ↓reduceIte, Nat.reduceEqDiff, Nat.reduceAdd, Nat.reduceMul, Nat.reduceLeDiff, Nat.reduceSub, Nat.reduceLT, Int.reduceToNat, Int.reduceLT, Int.reduceLE, reduceCtorEq]
    · simp only [q7, go_sem, Int.reduceTMod, Int.reduceTDiv, Int.reduceDiv, Int.reduceMod, Int.reduceAdd, Int.reduceSub, Int.reduceMul, Int.reduceNeg, Int.reducePow, Int.reduceEq, ↓reduceIte, Nat.reduceEqDiff, Nat.reduceAdd, Nat.reduceMul, Nat.reduceLeDiff, Nat.reduceSub, Nat.reduceLT, Int.reduceToNat, Int.reduceLT, Int.reduceLE, reduceCtorEq]
    · simp only [q6, hr1, go_sem, Int.reduceTMod, Int.reduceTDiv, Int.reduceDiv, Int.reduceMod, Int.reduceAdd, Int.reduceSub, Int.reduceMul, Int.reduceNeg, Int.reducePow, Int.reduceEq, ↓reduceIte, Nat.reduceEqDiff, Nat.reduceAdd, Nat.reduceMul, Nat.reduceLeDiff, Nat.reduceSub, Nat.reduceLT, Int.reduceToNat, Int.reduceLT, Int.reduceLE, reduceCtorEq]
    · simp only [go_sem, Int.reduceTMod, Int.reduceTDiv, Int.reduceDiv, Int.reduceMod, Int.reduceAdd, Int.reduceSub, Int.reduceMul, Int.reduceNeg, Int.reducePow, Int.reduceEq, ↓reduceIte, Nat.reduceEqDiff, Nat.reduceAdd, Nat.reduceMul, Nat.reduceLeDiff, Nat.reduceSub, Nat.reduceLT, Int.reduceToNat, Int.reduceLT, Int.reduceLE, reduceCtorEq]
      omega
    · intro id hid
      simp only
      rw [h1 id hid]
      simp only [na_0 (show id < N by omega), na_ne (show id < N by omega), qm id hid, go_sem, Int.reduceTMod, Int.reduceTDiv, Int.reduceDiv, Int.reduceMod, Int.reduceAdd, Int.reduceSub, Int.reduceMul, Int.reduceNeg, Int.reducePow, Int.reduceEq, ↓reduceIte, Nat.reduceEqDiff, Nat.reduceAdd, Nat.reduceMul, Nat.reduceLeDiff, Nat.reduceSub, Nat.reduceLT, Int.reduceToNat, Int.reduceLT, Int.reduceLE, reduceCtorEq]
    · simp only [go_sem, Int.reduceTMod, Int.reduceTDiv, Int.reduceDiv, Int.reduceMod, Int.reduceAdd, Int.reduceSub, Int.reduceMul, Int.reduceNeg, Int.reducePow, Int.reduceEq, ↓reduceIte, Nat.reduceEqDiff, Nat.reduceAdd, Nat.reduceMul, Nat.reduceLeDiff, Nat.reduceSub, Nat.reduceLT, Int.reduceToNat, Int.reduceLT, Int.reduceLE, reduceCtorEq]
      rw [hts]
      exact ho
  · obtain ⟨e, M, N⟩ := s
    obtain ⟨q8, q7, q6, qn, qm, qo⟩ := hs
    simp only at q8 q7 q6 qn qm qo
    have c2 : ((l.length : Int) < (l.length : Int)) = False := eq_false (by omega)
    rw [List.take_length] at qo
    try simp only [r15_0, r15_1, r15_2, r15_3, r15_4, r15_5, r15_6, r15_7, c15, F15, l15_0, q8, q7, q6, c2, go_sem, Int.reduceTMod, Int.reduceTDiv, Int.reduceDiv, Int.reduceMod, Int.reduceAdd, Int.reduceSub, Int.reduceMul, Int.reduceNeg, Int.reducePow, Int.reduceEq, ↓reduceIte, Nat.reduceEqDiff, Nat.reduceAdd, Nat.reduceMul, Nat.reduceLeDiff, Nat.reduceSub, Nat.reduceLT, Int.reduceToNat, Int.reduceLT, Int.reduceLE, reduceCtorEq]
    repeat' ((first | refine FK_split (fun h_ => ?_) (fun h_ => ?_) | refine GK_split (fun h_ => ?_) (fun h_ => ?_) | refine ite_both (fun h_ => ?_) (fun h_ => ?_)) <;> (try simp only [decide_eq_true_eq, decide_eq_false_iff_not, Bool.not_true, Bool.not_false, Bool.not_eq_true', Bool.not_eq_false', Bool.not_eq_eq_eq_not, Decidable.not_not] at h_) <;> (try simp only [r15_0, r15_1, r15_2, r15_3, r15_4, r15_5, r15_6, r15_7, c15, F15, l15_0, q8, q7, q6, c2, h_, go_sem, Int.reduceTMod, Int.reduceTDiv, Int.reduceDiv, Int.reduceMod, Int.reduceAdd, Int.reduceSub, Int.reduceMul, Int.reduceNeg, Int.reducePow, Int.reduceEq, ↓reduceIte, Nat.reduceEqDiff, Nat.reduceAdd, Nat.reduceMul, Nat.reduceLeDiff, Nat.reduceSub, Nat.reduceLT, Int.reduceToNat, Int.reduceLT, Int.reduceLE, reduceCtorEq]))
    exact ⟨qo, qn⟩
  · simp only [List.take_zero, go_sem, Int.reduceTMod, Int.reduceTDiv, Int.reduceDiv, Int.reduceMod, Int.reduceAdd, Int.reduceSub, Int.reduceMul, Int.reduceNeg, Int.reducePow, Int.reduceEq, ↓reduceIte, Nat.reduceEqDiff, Nat.reduceAdd, Nat.reduceMul, Nat.reduceLeDiff, Nat.reduceSub, Nat.reduceLT, Int.reduceToNat, Int.reduceLT, Int.reduceLE, reduceCtorEq]
    exact ⟨by omega, fun _ _ => trivial, OL.nil⟩
/-- Is a stop right, behind another one? -/
def stOk (p : Option Stp) (s : Stp) : Bool := decide (0 ≤ s.a) && (decide (s.a ≤ 65536) && (crB s.c0 s.c1 s.c2 s.c3 && (match p with | none => true | some p => decide (p.a ≤ s.a))))
def stTo (l : List Stp) : Nat → Bool
  | 0 => true
  | i + 1 => stTo l i && (match l[i]? with | some s => stOk (if i = 0 then none else l[i - 1]?) s | none => true)
def lenB (l : List Stp) : Bool := decide (1 ≤ l.length) && decide (l.length ≤ 16)
def stopsB (l : List Stp) : Bool := lenB l && stTo l l.length
theorem stTo_bad {l : List Stp} {i : Nat} (h : stTo l i = false) : ∀ j, i ≤ j → stTo l j = false := by
  intro j hj
  induction j with
  | zero => rwa [show i = 0 by omega] at h
  | succ j ih =>
    by_cases e : i = j + 1
    · subst e; exact h
    · rw [stTo, ih (by omega)]; rfl
theorem rd_tail {m : Mem} {id o k : Nat} {c : Cell} {cs : List Cell} (h : rd m id o (k + 1) = some (c :: cs)) : rd m id (o + 1) k = some cs := by
  unfold rd at h ⊢
  cases hm : m id with
  | none => rw [hm] at h; simp at h
  | some b =>
    rw [hm] at h
    simp only [rdB] at h ⊢
    split at h
    · rename_i hk
      rw [if_pos (by omega)]
      simp only [Option.some.injEq] at h ⊢
      rw [List.drop_eq_getElem_cons (show o < b.cells.length by omega), List.take_succ_cons] at h
      exact (List.cons.inj h).2
    · cases h
theorem v_Stops (r : Reg) (l : List Stp) (m : Mem) (n : Nat) (hr : RRi m n r l) (hl : l.length < 4294967296) : callF TA 26 [r] m n = some (RB (stopsB l)) := by
  refine callF_of (Fn_ofK (fn := F26) rfl (by simp [F26]) ?_)
  have hlen := hr.len
  try simp only [r26_0, r26_1, r26_2, r26_4, r26_5, r26_3, r26_6, c26, F26, go_sem, Int.reduceTMod, Int.reduceTDiv, Int.reduceDiv, Int.reduceMod, Int.reduceAdd, Int.reduceSub, Int.reduceMul, Int.reduceNeg, Int.reducePow, Int.reduceEq, ↓reduceIte, Nat.reduceEqDiff, Nat.reduceAdd, Nat.reduceMul, Nat.reduceLeDiff, Nat.reduceSub, Nat.reduceLT, Int.reduceToNat, Int.reduceLT, Int.reduceLE, reduceCtorEq]
  repeat' ((first | refine FK_split (fun h_ => ?_) (fun h_ => ?_) | refine GK_split (fun h_ => ?_) (fun h_ => ?_) | refine ite_both (fun h_ => ?_) (fun h_ => ?_)) <;> (try simp only [decide_eq_true_eq, decide_eq_false_iff_not, Bool.not_true, Bool.not_false, Bool.not_eq_true', Bool.not_eq_false', Bool.not_eq_eq_eq_not, Decidable.not_not] at h_) <;> (try simp only [r26_0, r26_1, r26_2, r26_4, r26_5, r26_3, r26_6, c26, F26, h_, go_sem, Int.reduceTMod, Int.reduceTDiv, Int.reduceDiv, Int.reduceMod, Int.reduceAdd, Int.reduceSub, Int.reduceMul, Int.reduceNeg, Int.reducePow, Int.reduceEq, ↓reduceIte, Nat.reduceEqDiff, Nat.reduceAdd, Nat.reduceMul, Nat.reduceLeDiff, Nat.reduceSub, Nat.reduceLT, Int.reduceToNat, Int.reduceLT, Int.reduceLE, reduceCtorEq]))
  refine XK_iter (inv := fun i s => s.e 3 = RI i ∧ s.e 0 = r ∧ s.m = m ∧ s.n = n ∧ stTo l i = true) l.length
    (fun L _ => ⟨fun i hi s hs next => ?_, fun s hs => ?_⟩) 0 (by omega) _ ?_
  · obtain ⟨e, M, N⟩ := s
    obtain ⟨q3, q0, qm, qn, qa⟩ := hs
    simp only at q3 q0 qm qn qa
    subst qm
    subst qn
    have hp : l[i]? = some l[i] := List.getElem?_eq_getElem hi
    obtain ⟨id, off, cap, hr1, hid, hrd⟩ := hr.at ri5 hp
    have hsn : stTo l (i + 1) = (stTo l i && stOk (if i = 0 then none else l[i - 1]?) l[i]) := by rw [stTo, hp]
    generalize l[i] = p at *
    have c2 : ((i : Int) < (l.length : Int)) = True := eq_true (by omega)
    have c3 : (0 ≤ (i : Int)) = True := eq_true (by omega)
    have c7 : IntKind.i64.wrap ((i : Int) + 1) = ((i + 1 : Nat) : Int) := wr_nat (by omega)
    rw [hr1] at q0
    obtain ⟨b, g1, g2⟩ := rd_cell hrd (a := 0) (c := I p.a) rfl
    rw [Nat.add_zero] at g2
    have hcol := rd_tail hrd
    rw [Nat.add_assoc] at hcol
    have hbad : stTo l (i + 1) = false → stopsB l = false := fun h => by unfold stopsB; rw [stTo_bad h _ (by omega), Bool.and_false]
    rw [qa, Bool.true_and] at hsn
    unfold stOk at hsn
    have vr := v_rCRight p.c0 p.c1 p.c2 p.c3
    by_cases a1 : p.a < 0
    · have hf : stopsB l = false := hbad (by rw [hsn, decide_eq_false (by omega)]; rfl)
      try simp only [r26_0, r26_1, r26_2, r26_4, r26_5, r26_3, r26_6, c26, F26, l26_0, q3, q0, lenO, c2, c3, g1, g2, a1, hf, Int.toNat_natCast, go_sem, Int.reduceTMod, Int.reduceTDiv, Int.reduceDiv, Int.reduceMod, Int.reduceAdd, Int.reduceSub, Int.reduceMul, Int.reduceNeg, Int.reducePow, Int.reduceEq, ↓reduceIte, Nat.reduceEqDiff, Nat.reduceAdd, Nat.reduceMul, Nat.reduceLeDiff, Nat.reduceSub, Nat.reduceLT, Int.reduceToNat, Int.reduceLT, Int.reduceLE, reduceCtorEq]
      repeat' ((first | refine FK_split (fun h_ => ?_) (fun h_ => ?_) | refine GK_split (fun h_ => ?_) (fun h_ => ?_) | refine ite_both (fun h_ => ?_) (fun h_ => ?_)) <;> (try simp only [decide_eq_true_eq, decide_eq_false_iff_not, Bool.not_true, Bool.not_false, Bool.not_eq_true', Bool.not_eq_false', Bool.not_eq_eq_eq_not, Decidable.not_not] at h_) <;> (try simp only [r26_0, r26_1, r26_2, r26_4, r26_5, r26_3, r26_6, c26, F26, l26_0, q3, q0, lenO, c2, c3, g1, g2, a1, hf, Int.toNat_natCast, h_, go_sem, Int.reduceTMod, Int.reduceTDiv, Int.reduceDiv, Int.reduceMod, Int.reduceAdd, Int.reduceSub, Int.reduceMul, Int.reduceNeg, Int.reducePow, Int.reduceEq, ↓reduceIte, Nat.reduceEqDiff, Nat.reduceAdd, Nat.reduceMul, Nat.reduceLeDiff, Nat.reduceSub, Nat.reduceLT, Int.reduceToNat, Int.reduceLT, Int.reduceLE, reduceCtorEq]))
    · by_cases a2 : 65536 < p.a
      · have hf : stopsB l = false := hbad (by rw [hsn, decide_eq_false (show ¬ p.a ≤ 65536 by omega), Bool.false_and, Bool.and_false])
        try simp only [r26_0, r26_1, r26_2, r26_4, r26_5, r26_3, r26_6, c26, F26, l26_0, q3, q0, lenO, c2, c3, g1, g2, a1, a2, hf, Int.toNat_natCast, go_sem, Int.reduceTMod, Int.reduceTDiv, Int.reduceDiv, Int.reduceMod, Int.reduceAdd, Int.reduceSub, Int.reduceMul, Int.reduceNeg, Int.reducePow, Int.reduceEq, ↓reduceIte, Nat.reduceEqDiff, Nat.reduceAdd, Nat.reduceMul, Nat.reduceLeDiff, Nat.reduceSub, Nat.reduceLT, Int.reduceToNat, Int.reduceLT, Int.reduceLE, reduceCtorEq]
        repeat' ((first | refine FK_split (fun h_ => ?_) (fun h_ => ?_) | refine GK_split (fun h_ => ?_) (fun h_ => ?_) | refine ite_both (fun h_ => ?_) (fun h_ => ?_)) <;> (try simp only [decide_eq_true_eq, decide_eq_false_iff_not, Bool.not_true, Bool.not_false, Bool.not_eq_true', Bool.not_eq_false', Bool.not_eq_eq_eq_not, Decidable.not_not] at h_) <;> (try simp only [r26_0, r26_1, r26_2, r26_4, r26_5, r26_3, r26_6, c26, F26, l26_0, q3, q0, lenO, c2, c3, g1, g2, a1, a2, hf, Int.toNat_natCast, h_, go_sem, Int.reduceTMod, Int.reduceTDiv, Int.reduceDiv, Int.reduceMod, Int.reduceAdd, Int.reduceSub, Int.reduceMul, Int.reduceNeg, Int.reducePow, Int.reduceEq, ↓reduceIte, Nat.reduceEqDiff, Nat.reduceAdd, Nat.reduceMul, Nat.reduceLeDiff, Nat.reduceSub, Nat.reduceLT, Int.reduceToNat, Int.reduceLT, Int.reduceLE, reduceCtorEq]))
      · rw [decide_eq_true (show 0 ≤ p.a by omega), decide_eq_true (show p.a ≤ 65536 by omega), Bool.true_and, Bool.true_and] at hsn
        cases a3 : crB p.c0 p.c1 p.c2 p.c3
        · rw [a3] at vr hsn
          have hf : stopsB l = false := hbad (by rw [hsn]; rfl)
          try simp only [r26_0, r26_1, r26_2, r26_4, r26_5, r26_3, r26_6, c26, F26, l26_0, q3, q0, lenO, c2, c3, g1, g2, a1, a2, hcol, vr, hf, Int.toNat_natCast, go_sem, Int.reduceTMod, Int.reduceTDiv, Int.reduceDiv, Int.reduceMod, Int.reduceAdd, Int.reduceSub, Int.reduceMul, Int.reduceNeg, Int.reducePow, Int.reduceEq, ↓reduceIte, Nat.reduceEqDiff, Nat.reduceAdd, Nat.reduceMul, Nat.reduceLeDiff, Nat.reduceSub, Nat.reduceLT, Int.reduceToNat, Int.reduceLT, Int.reduceLE, reduceCtorEq]
          repeat' ((first | refine FK_split (fun h_ => ?_) (fun h_ => ?_) | refine GK_split (fun h_ => ?_) (fun h_ => ?_) | refine ite_both (fun h_ => ?_) (fun h_ => ?_)) <;> (try simp only [decide_eq_true_eq, decide_eq_false_iff_not, Bool.not_true, Bool.not_false, Bool.not_eq_true', Bool.not_eq_false', Bool.not_eq_eq_eq_not, Decidable.not_not] at h_) <;> (try simp only [r26_0, r26_1, r26_2, r26_4, r26_5, r26_3, r26_6, c26, F26, l26_0, q3, q0, lenO, c2, c3, g1, g2, a1, a2, hcol, vr, hf, Int.toNat_natCast, h_, go_sem, Int.reduceTMod, Int.reduceTDiv, Int.reduceDiv, Int.reduceMod, Int.reduceAdd, Int.reduceSub, Int.reduceMul, Int.reduceNeg, Int.reducePow, Int.reduceEq, ↓reduceIte, Nat.reduceEqDiff, Nat.reduceAdd, Nat.reduceMul, Nat.reduceLeDiff, Nat.reduceSub, Nat.reduceLT, Int.reduceToNat, Int.reduceLT, Int.reduceLE, reduceCtorEq]))
        · rw [a3] at vr hsn
          rw [Bool.true_and] at hsn
          by_cases a4 : i = 0
          · rw [if_pos a4] at hsn
            have d1 : (0 < (i : Int)) = False := eq_false (by omega)
            try simp only [r26_0, r26_1, r26_2, r26_4, r26_5, r26_3, r26_6, c26, F26, l26_0, q3, q0, lenO, c2, c3, c7, g1, g2, a1, a2, hcol, vr, d1, Int.toNat_natCast, go_sem, Int.reduceTMod, Int.reduceTDiv, Int.reduceDiv, Int.reduceMod, Int.reduceAdd, Int.reduceSub, Int.reduceMul, Int.reduceNeg, Int.reducePow, Int.reduceEq, ↓reduceIte, Nat.reduceEqDiff, Nat.reduceAdd, Nat.reduceMul, Nat.reduceLeDiff, Nat.reduceSub, Nat.reduceLT, Int.reduceToNat, Int.reduceLT, Int.reduceLE, reduceCtorEq]
            repeat' ((first | refine FK_split (fun h_ => ?_) (fun h_ => ?_) | refine GK_split (fun h_ => ?_) (fun h_ => ?_) | refine ite_both (fun h_ => ?_) (fun h_ => ?_)) <;> (try simp only [decide_eq_true_eq, decide_eq_false_iff_not, Bool.not_true, Bool.not_false, Bool.not_eq_true', Bool.not_eq_false', Bool.not_eq_eq_eq_not, Decidable.not_not] at h_) <;> (try simp only [r26_0, r26_1, r26_2, r26_4, r26_5, r26_3, r26_6, c26, F26, l26_0, q3, q0, lenO, c2, c3, c7, g1, g2, a1, a2, hcol, vr, d1, Int.toNat_natCast, h_, go_sem, Int.reduceTMod, Int.reduceTDiv, Int.reduceDiv, Int.reduceMod, Int.reduceAdd, Int.reduceSub, Int.reduceMul, Int.reduceNeg, Int.reducePow, Int.reduceEq, ↓reduceIte, Nat.reduceEqDiff, Nat.reduceAdd, Nat.reduceMul, Nat.reduceLeDiff, Nat.reduceSub, Nat.reduceLT, Int.reduceToNat, Int.reduceLT, Int.reduceLE, reduceCtorEq]))
            refine next _ ⟨?_, ?_, rfl, rfl, hsn⟩
            · simp only [go_sem, Int.reduceTMod, Int.reduceTDiv, Int.reduceDiv, Int.reduceMod, Int.reduceAdd, Int.reduceSub, Int.reduceMul, Int.reduceNeg, Int.reducePow, Int.reduceEq, ↓reduceIte, Nat.reduceEqDiff, Nat.reduceAdd, Nat.reduceMul, Nat.reduceLeDiff, Nat.reduceSub, Nat.reduceLT, Int.reduceToNat, Int.reduceLT, Int.reduceLE, reduceCtorEq]
            · simp only [q0, hr1, go_sem, Int.reduceTMod, Int.reduceTDiv, Int.reduceDiv, Int.reduceMod, Int.reduceAdd, Int.reduceSub, Int.reduceMul, Int.reduceNeg, Int.reducePow, Int.reduceEq, ↓reduceIte, Nat.reduceEqDiff, Nat.reduceAdd, Nat.reduceMul, Nat.reduceLeDiff, Nat.reduceSub, Nat.reduceLT, Int.reduceToNat, Int.reduceLT, Int.reduceLE, reduceCtorEq]
          · rw [if_neg a4] at hsn
            have d1 : (0 < (i : Int)) = True := eq_true (by omega)
            have d2 : IntKind.i64.wrap ((i : Int) - 1) = (i : Int) - 1 := wr_eq (by omega) (by omega)
            have d3 : (0 ≤ (i : Int) - 1) = True := eq_true (by omega)
            have d4 : ((i : Int) - 1 < (l.length : Int)) = True := eq_true (by omega)
            have d5 : ((i : Int) - 1).toNat = i - 1 := by omega
            have hp2 : l[i - 1]? = some (l[i - 1]'(by omega)) := List.getElem?_eq_getElem (by omega)
            obtain ⟨id2, off2, cap2, hr2, hid2, hrd2⟩ := hr.at ri5 hp2
            rw [hr1] at hr2
            simp only [Reg.one.injEq, Cell.sl.injEq, true_and] at hr2
            obtain ⟨rfl, rfl, rfl, _⟩ := hr2
            rw [hp2] at hsn
            generalize (l[i - 1]'(by omega)) = p2 at *
            obtain ⟨b2, g3, g4⟩ := rd_cell hrd2 (a := 0) (c := I p2.a) rfl
            rw [g1] at g3
            cases g3
            rw [Nat.add_zero] at g4
            by_cases a5 : p.a < p2.a
            · have hf : stopsB l = false := hbad (by rw [hsn]; exact decide_eq_false (by omega))
              try simp only [r26_0, r26_1, r26_2, r26_4, r26_5, r26_3, r26_6, c26, F26, l26_0, q3, q0, lenO, c2, c3, c7, g1, g2, g4, a1, a2, hcol, vr, d1, d2, d3, d4, d5, a5, hf, Int.toNat_natCast, go_sem, Int.reduceTMod, Int.reduceTDiv, Int.reduceDiv, Int.reduceMod, Int.reduceAdd, Int.reduceSub, Int.reduceMul, Int.reduceNeg, Int.reducePow, Int.reduceEq, ↓reduceIte, Nat.reduceEqDiff, Nat.reduceAdd, Nat.reduceMul, Nat.reduceLeDiff, Nat.reduceSub, Nat.reduceLT, Int.reduceToNat, Int.reduceLT, Int.reduceLE, reduceCtorEq]
              repeat' ((first | refine FK_split (fun h_ => ?_) (fun h_ => ?_) | refine GK_split (fun h_ => ?_) (fun h_ => ?_) | refine ite_both (fun h_ => ?_) (fun h_ => ?_)) <;> (try simp only [decide_eq_true_eq, decide_eq_false_iff_not, Bool.not_true, Bool.not_false, Bool.not_eq_true', Bool.not_eq_false', Bool.not_eq_eq_eq_not, Decidable.not_not] at h_) <;> (try simp only [r26_0, r26_1, r26_2, r26_4, r26_5, r26_3, r26_6, c26, F26, l26_0, q3, q0, lenO, c2, c3, c7, g1, g2, g4, a1, a2, hcol, vr, d1, d2, d3, d4, d5, a5, hf, Int.toNat_natCast, h_, go_sem, Int.reduceTMod, Int.reduceTDiv, Int.reduceDiv, Int.reduceMod, Int.reduceAdd, Int.reduceSub, Int.reduceMul, Int.reduceNeg, Int.reducePow, Int.reduceEq, ↓reduceIte, Nat.reduceEqDiff, Nat.reduceAdd, Nat.reduceMul, Nat.reduceLeDiff, Nat.reduceSub, Nat.reduceLT, Int.reduceToNat, Int.reduceLT, Int.reduceLE, reduceCtorEq]))
            · have hs2 : stTo l (i + 1) = true := by rw [hsn]; exact decide_eq_true (by omega)
              try simp only [r26_0, r26_1, r26_2, r26_4, r26_5, r26_3, r26_6, c26, F26, l26_0, q3, q0, lenO, c2, c3, c7, g1, g2, g4, a1, a2, hcol, vr, d1, d2, d3, d4, d5, a5, Int.toNat_natCast, go_sem, Int.reduceTMod, Int.reduceTDiv, Int.reduceDiv, Int.reduceMod, Int.reduceAdd, Int.reduceSub, Int.reduceMul, Int.reduceNeg, Int.reducePow, Int.reduceEq, ↓reduceIte, Nat.reduceEqDiff, Nat.reduceAdd, Nat.reduceMul, Nat.reduceLeDiff, Nat.reduceSub, Nat.reduceLT, Int.reduceToNat, Int.reduceLT, Int.reduceLE, reduceCtorEq]
              repeat' ((first | refine FK_split (fun h_ => ?_) (fun h_ => ?_) | refine GK_split (fun h_ => ?_) (fun h_ => ?_) | refine ite_both (fun h_ => ?_) (fun h_ => ?_)) <;> (try simp only [decide_eq_true_eq, decide_eq_false_iff_not, Bool.not_true, Bool.not_false, Bool.not_eq_true', Bool.not_eq_false', Bool.not_eq_eq_eq_not, Decidable.not_not] at h_) <;> (try simp only [r26_0, r26_1, r26_2, r26_4, r26_5, r26_3, r26_6, c26, F26, l26_0, q3, q0, lenO, c2, c3, c7, g1, g2, g4, a1, a2, hcol, vr, d1, d2, d3, d4, d5, a5, Int.toNat_natCast, h_, go_sem, Int.reduceTMod, Int.reduceTDiv, Int.reduceDiv, Int.reduceMod, Int.reduceAdd, Int.reduceSub, Int.reduceMul, Int.reduceNeg, Int.reducePow, Int.reduceEq, ↓reduceIte, Nat.reduceEqDiff, Nat.reduceAdd, Nat.reduceMul, Nat.reduceLeDiff, Nat.reduceSub, Nat.reduceLT, Int.reduceToNat, Int.reduceLT, Int.reduceLE, reduceCtorEq]))
              refine next _ ⟨?_, ?_, rfl, rfl, hs2⟩
              · simp only [go_sem, Int.reduceTMod, Int.reduceTDiv, Int.reduceDiv, Int.reduceMod, Int.reduceAdd, Int.reduceSub, Int.reduceMul, Int.reduceNeg, Int.reducePow, Int.reduceEq, ↓reduceIte, Nat.reduceEqDiff, Nat.reduceAdd, Nat.reduceMul, Nat.reduceLeDiff, Nat.reduceSub, Nat.reduceLT, Int.reduceToNat, Int.reduceLT, Int.reduceLE, reduceCtorEq]
              · simp only [q0, hr1, go_sem, Int.reduceTMod, Int.reduceTDiv, Int.reduceDiv, Int.reduceMod, Int.reduceAdd, Int.reduceSub, Int.reduceMul, Int.reduceNeg, Int.reducePow, Int.reduceEq, ↓reduceIte, Nat.reduceEqDiff, Nat.reduceAdd, Nat.reduceMul, Nat.reduceLeDiff, Nat.reduceSub, Nat.reduceLT, Int.reduceToNat, Int.reduceLT, Int.reduceLE, reduceCtorEq]
  · obtain ⟨e, M, N⟩ := s
    obtain ⟨q3, q0, qm, qn, qa⟩ := hs
    simp only at q3 q0 qm qn qa
    have c2 : ((l.length : Int) < (l.length : Int)) = False := eq_false (by omega)
    have e1 : stopsB l = lenB l := by unfold stopsB; rw [qa, Bool.and_true]
    have e2 : lenB l = (decide ((1 : Int) ≤ l.length) && decide ((l.length : Int) ≤ 16)) := by
      unfold lenB
      congr 1 <;> (congr 1; apply propext; omega)
    rw [e1, e2]
    try simp only [r26_0, r26_1, r26_2, r26_4, r26_5, r26_3, r26_6, c26, F26, l26_0, q3, q0, hlen, c2, go_sem, Int.reduceTMod, Int.reduceTDiv, Int.reduceDiv, Int.reduceMod, Int.reduceAdd, Int.reduceSub, Int.reduceMul, Int.reduceNeg, Int.reducePow, Int.reduceEq, ↓reduceIte, Nat.reduceEqDiff, Nat.reduceAdd, Nat.reduceMul, Nat.reduceLeDiff, Nat.reduceSub, Nat.reduceLT, Int.reduceToNat, Int.reduceLT, Int.reduceLE, reduceCtorEq]
    repeat' ((first | refine FK_split (fun h_ => ?_) (fun h_ => ?_) | refine GK_split (fun h_ => ?_) (fun h_ => ?_) | refine ite_both (fun h_ => ?_) (fun h_ => ?_)) <;> (try simp only [decide_eq_true_eq, decide_eq_false_iff_not, Bool.not_true, Bool.not_false, Bool.not_eq_true', Bool.not_eq_false', Bool.not_eq_eq_eq_not, Decidable.not_not] at h_) <;> (try simp only [r26_0, r26_1, r26_2, r26_4, r26_5, r26_3, r26_6, c26, F26, l26_0, q3, q0, hlen, c2, h_, go_sem, Int.reduceTMod, Int.reduceTDiv, Int.reduceDiv, Int.reduceMod, Int.reduceAdd, Int.reduceSub, Int.reduceMul, Int.reduceNeg, Int.reducePow, Int.reduceEq, ↓reduceIte, Nat.reduceEqDiff, Nat.reduceAdd, Nat.reduceMul, Nat.reduceLeDiff, Nat.reduceSub, Nat.reduceLT, Int.reduceToNat, Int.reduceLT, Int.reduceLE, reduceCtorEq]))
  · simp only [stTo, go_sem, Int.reduceTMod, Int.reduceTDiv, Int.reduceDiv, Int.reduceMod, Int.reduceAdd, Int.reduceSub, Int.reduceMul, Int.reduceNeg, Int.reducePow, Int.reduceEq, ↓reduceIte, Nat.reduceEqDiff, Nat.reduceAdd, Nat.reduceMul, Nat.reduceLeDiff, Nat.reduceSub, Nat.reduceLT, Int.reduceToNat, Int.reduceLT, Int.reduceLE, reduceCtorEq]
end Go.Proofs.Ytffhhgcgnillaaa.Sy
