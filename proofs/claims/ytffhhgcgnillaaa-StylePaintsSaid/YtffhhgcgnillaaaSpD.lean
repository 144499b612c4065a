/- Colours mixed, walked. Conditions: those that each theorem names. -/
import Derived.Test.YtffhhgcgnillaaaSpC
namespace Go.Proofs.Ytffhhgcgnillaaa.Sy
open Go Go.Proofs
set_option linter.unusedSimpArgs false
set_option linter.unusedVariables false
set_option maxRecDepth 20000
attribute [local go_sem] XK_seq XK_block XK_skip XK_exit XK_ret XK_cond XK_reg XK_dreg XK_ureg KN_seq KN_blk KN_lp KN_chk KN_chku KN_top KN_fin KX_seq KX_lp KX_blk KX_chk KX_top KR_seq KR_blk KR_lp KR_chk KR_top KR_fin FK_true FK_false RK_nil RK_mv RK_pick RK_alloc RK_box RK_build RK_bslice RK_load1 RK_loadA RK_store RK_nilchk RK_bin RK_beq RK_eqv RK_eqnil RK_un RK_conv RK_mkfn RK_mkslice RK_slS RK_slA RK_fadr RK_fld RK_iadrA RK_iadrS RK_idxA RK_istr RK_ext RK_lenC RK_cap RK_app RK_appz RK_pre RK_cpy RK_mn RK_mx RK_len RK_carry RK_clr carryR um0 um1 ThenK_some RK_guard GK_tt GK_ff GK_tf GK_ft GK_none QK_some RK_callQ RK_callZ RK_callT TK_some VK_clo RK_callV
  evalOp evO evOs upd_at unfrz_at putE_some putE_none boolOf_b boolOf_tup Option.map_some evRes pack_one pack_two pack_three pack_none List.getD_cons_zero List.getD_cons_succ getD_nil
  Option.some.injEq exists_eq_left' Reg.cs? fillC setL List.set_cons_zero List.set_cons_succ List.length_cons List.length_nil rd_upd rd_updn rdB wr List.drop_zero List.drop_succ_cons List.take_succ_cons List.take_zero List.getElem?_cons_zero List.getElem?_cons_succ
  ix Int.toNat_zero lenO_sl lenO_nil nadd na_eq na_eq' na_lt na_ee na_ll na_ne na_ne' na_tt
attribute [local go_sem] Reg.flat_one Reg.flat_agg Reg.flat_tup flats_nil flats_cons Cell.flat_sc Cell.flat_ptr List.all_cons List.all_nil disOk safeOk safeR decide_eq_true_eq decide_eq_false_iff_not
  List.map_cons List.map_nil List.cons_append List.nil_append List.append_nil evalOp.capsOf Bool.false_bne Bool.bne_false Bool.true_bne Bool.bne_true bne_self_eq_false beq_self_eq_true Bool.not_not Bool.false_and Bool.and_false Bool.true_or Bool.or_true beq_iff_eq eqCells
  Bool.true_beq Bool.false_beq Bool.not_eq_true' Bool.not_eq_eq_eq_not Bool.not_eq_false' and_false false_and frz_at idOf noId Option.isSome_some Bool.and_eq_true
attribute [local go_sem] wr_eq bV_add bV_sub bV_mul bV_eql bV_neq bV_lss bV_leq bV_gtr bV_geq bV_quo bV_rem bV_shr bV_shl uV_not uV_neg wrapU bits_and bits_or bits_xor IntKind.bits Nat.min_eq_left Nat.min_eq_right Nat.min_self
attribute [local go_sem] bne_iff_ne Int.cast_ofNat_Int Nat.zero_add Nat.add_zero and_self and_true true_and ne_eq not_false_eq_true not_true_eq_false decide_true decide_false Bool.false_eq_true Bool.not_true Bool.not_false Bool.true_and Bool.and_true Bool.or_false Bool.false_or Bool.and_self

structure Co where
  c0 : Int
  c1 : Int
  c2 : Int
  c3 : Int
def Co.by (c : Co) : Prop := (byteB c.c0 ∧ byteB c.c1) ∧ byteB c.c2 ∧ byteB c.c3
abbrev Co.u (c : Co) : Reg := .agg [U8 c.c0, U8 c.c1, U8 c.c2, U8 c.c3]
abbrev Co.i (c : Co) : Reg := .agg [I c.c0, I c.c1, I c.c2, I c.c3]
def Stp.co (s : Stp) : Co := ⟨s.c0, s.c1, s.c2, s.c3⟩
def mxV (c d t : Int) : Int := (c * (65536 - t) + d * t + 32768) / 65536
def mixC (a b : Co) (t : Int) : Co := ⟨mxV a.c0 b.c0 t, mxV a.c1 b.c1 t, mxV a.c2 b.c2 t, mxV a.c3 b.c3 t⟩
theorem mx_bd {c d t : Int} (hc : byteB c) (hd : byteB d) (h0 : 0 ≤ t) (h1 : t ≤ 65536) : (0 ≤ c * (65536 - t) ∧ c * (65536 - t) ≤ 16711680) ∧ (0 ≤ d * t ∧ d * t ≤ 16711680) ∧ c * (65536 - t) + d * t ≤ 16711680 ∧ byteB (mxV c d t) := by
  obtain ⟨hc0, hc1⟩ := hc
  obtain ⟨hd0, hd1⟩ := hd
  have a1 := Int.mul_nonneg hc0 (show 0 ≤ 65536 - t by omega)
  have a2 := Int.mul_nonneg hd0 h0
  have a3 := Int.mul_le_mul_of_nonneg_right hc1 (show 0 ≤ 65536 - t by omega)
  have a4 := Int.mul_le_mul_of_nonneg_right hd1 h0
  unfold byteB mxV
  omega
theorem mx_mono {c c' d d' t : Int} (h1 : c ≤ c') (h2 : d ≤ d') (h3 : 0 ≤ t) (h4 : t ≤ 65536) : mxV c d t ≤ mxV c' d' t := by
  have a3 := Int.mul_le_mul_of_nonneg_right h1 (show 0 ≤ 65536 - t by omega)
  have a4 := Int.mul_le_mul_of_nonneg_right h2 h3
  unfold mxV
  omega
theorem u8wB {z : Int} (h : byteB z) : IntKind.u8.wrap z = z := by
  obtain ⟨h0, h1⟩ := h
  simp [IntKind.wrap, IntKind.bits, IntKind.signed]
  omega
theorem mx_walk {c d t : Int} (hc : byteB c) (hd : byteB d) (h0 : 0 ≤ t) (h1 : t ≤ 65536) : IntKind.i64.wrap c = c ∧ IntKind.i64.wrap d = d ∧ IntKind.i64.wrap (c * (65536 - t)) = c * (65536 - t) ∧ IntKind.i64.wrap (d * t) = d * t ∧ IntKind.i64.wrap (c * (65536 - t) + d * t) = c * (65536 - t) + d * t ∧
    IntKind.i64.wrap (c * (65536 - t) + d * t + 32768) = c * (65536 - t) + d * t + 32768 ∧ (c * (65536 - t) + d * t + 32768).tdiv 65536 = mxV c d t ∧ IntKind.i64.wrap (mxV c d t) = mxV c d t ∧ IntKind.u8.wrap (mxV c d t) = mxV c d t := by
  obtain ⟨⟨a1, a2⟩, ⟨a3, a4⟩, a5, a6⟩ := mx_bd hc hd h0 h1
  have a7 := a6
  unfold byteB at hc hd a6
  exact ⟨wr_eq (by omega) (by omega), wr_eq (by omega) (by omega), wr_eq (by omega) (by omega), wr_eq (by omega) (by omega), wr_eq (by omega) (by omega), wr_eq (by omega) (by omega), Int.tdiv_eq_ediv_of_nonneg (by omega), wr_eq (by omega) (by omega), u8wB a7⟩
theorem v_Mix (a b : Co) (t : Int) (ha : a.by) (hb : b.by) (h0 : 0 ≤ t) (h1 : t ≤ 65536) (m : Mem) (n : Nat) : callF TA 42 [a.u, b.u, RI t] m n = some (mixC a b t).u := by
  refine callF_of (Fn_ofK (fn := F42) rfl (by simp [F42]) ?_)
  obtain ⟨a0, a1, a2, a3⟩ := a
  obtain ⟨b0, b1, b2, b3⟩ := b
  obtain ⟨p1, p2, p3, p4, p5, p6, p7, p8, p9⟩ := mx_walk ha.1.1 hb.1.1 h0 h1
  obtain ⟨q1, q2, q3, q4, q5, q6, q7, q8, q9⟩ := mx_walk ha.1.2 hb.1.2 h0 h1
  obtain ⟨r1, r2, r3, r4, r5, r6, r7, r8, r9⟩ := mx_walk ha.2.1 hb.2.1 h0 h1
  obtain ⟨s1, s2, s3, s4, s5, s6, s7, s8, s9⟩ := mx_walk ha.2.2 hb.2.2 h0 h1
  simp only at p1 p2 p3 p4 p5 p6 p7 p8 p9 q1 q2 q3 q4 q5 q6 q7 q8 q9 r1 r2 r3 r4 r5 r6 r7 r8 r9 s1 s2 s3 s4 s5 s6 s7 s8 s9
  have e : mnI (mxI t 0) 65536 = t := by unfold mnI mxI; split <;> split <;> omega
  have w : IntKind.i64.wrap (65536 - t) = 65536 - t := wr_eq (by omega) (by omega)
  try simp only [r42_0, r42_1, r42_2, r42_3, r42_4, r42_5, r42_6, r42_7, r42_8, c42, F42, l42_0, XK_loop, maxI_two, minI_two, e, w, p1, p2, p3, p4, p5, p6, p7, p8, p9, q1, q2, q3, q4, q5, q6, q7, q8, q9, r1, r2, r3, r4, r5, r6, r7, r8, r9, s1, s2, s3, s4, s5, s6, s7, s8, s9, mixC, go_sem, Int.reduceTMod, Int.reduceTDiv, Int.reduceDiv, Int.reduceMod, Int.reduceAdd, Int.reduceSub, Int.reduceMul, Int.reduceNeg, Int.reducePow, Int.reduceEq, ↓reduceIte, Nat.reduceEqDiff, Nat.reduceAdd, Nat.reduceMul, Nat.reduceLeDiff, Nat.reduceSub, Nat.reduceLT, Int.reduceToNat, Int.reduceLT, Int.reduceLE, reduceCtorEq]
  repeat' ((first | refine FK_split (fun h_ => ?_) (fun h_ => ?_) | refine GK_split (fun h_ => ?_) (fun h_ => ?_) | refine ite_both (fun h_ => ?_) (fun h_ => ?_)) <;> (try simp only [decide_eq_true_eq, decide_eq_false_iff_not, Bool.not_true, Bool.not_false, Bool.not_eq_true', Bool.not_eq_false', Bool.not_eq_eq_eq_not, Decidable.not_not] at h_) <;> (try simp only [r42_0, r42_1, r42_2, r42_3, r42_4, r42_5, r42_6, r42_7, r42_8, c42, F42, l42_0, XK_loop, maxI_two, minI_two, e, w, p1, p2, p3, p4, p5, p6, p7, p8, p9, q1, q2, q3, q4, q5, q6, q7, q8, q9, r1, r2, r3, r4, r5, r6, r7, r8, r9, s1, s2, s3, s4, s5, s6, s7, s8, s9, mixC, h_, go_sem, Int.reduceTMod, Int.reduceTDiv, Int.reduceDiv, Int.reduceMod, Int.reduceAdd, Int.reduceSub, Int.reduceMul, Int.reduceNeg, Int.reducePow, Int.reduceEq, ↓reduceIte, Nat.reduceEqDiff, Nat.reduceAdd, Nat.reduceMul, Nat.reduceLeDiff, Nat.reduceSub, Nat.reduceLT, Int.reduceToNat, Int.reduceLT, Int.reduceLE, reduceCtorEq]))
theorem rnd16 (x : Int) : rnd x 65536 = (x + 32768) / 65536 := by unfold rnd; omega
theorem v_rMix (a b : Co) (t : Int) (ha : a.by) (hb : b.by) (h0 : 0 ≤ t) (h1 : t ≤ 65536) (m : Mem) (n : Nat) : callF TA 34 [a.i, b.i, RI t] m n = some (mixC a b t).i := by
  refine callF_of (Fn_ofK (fn := F34) rfl (by simp [F34]) ?_)
  obtain ⟨a0, a1, a2, a3⟩ := a
  obtain ⟨b0, b1, b2, b3⟩ := b
  have vr : ∀ {c d : Int}, byteB c → byteB d → callF TA 45 [RI (c * (65536 - t) + d * t), RI 65536] (fun _ => none) 0 = some (RI (mxV c d t)) := fun hc hd => by
    obtain ⟨⟨a1, a2⟩, ⟨a3, a4⟩, a5, a6⟩ := mx_bd hc hd h0 h1
    rw [v_Round _ _ (by omega) (by decide) (by decide), rnd16]
    rfl
  obtain ⟨p1, p2, p3, p4, p5, p6, p7, p8, p9⟩ := mx_walk ha.1.1 hb.1.1 h0 h1
  obtain ⟨q1, q2, q3, q4, q5, q6, q7, q8, q9⟩ := mx_walk ha.1.2 hb.1.2 h0 h1
  obtain ⟨r1, r2, r3, r4, r5, r6, r7, r8, r9⟩ := mx_walk ha.2.1 hb.2.1 h0 h1
  obtain ⟨s1, s2, s3, s4, s5, s6, s7, s8, s9⟩ := mx_walk ha.2.2 hb.2.2 h0 h1
  have v1 := vr ha.1.1 hb.1.1
  have v2 := vr ha.1.2 hb.1.2
  have v3 := vr ha.2.1 hb.2.1
  have v4 := vr ha.2.2 hb.2.2
  simp only at p3 p4 p5 q3 q4 q5 r3 r4 r5 s3 s4 s5 v1 v2 v3 v4
  have w : IntKind.i64.wrap (65536 - t) = 65536 - t := wr_eq (by omega) (by omega)
  try simp only [r34_0, r34_1, r34_2, r34_4, r34_3, r34_5, c34, F34, l34_0, XK_loop, w, p3, p4, p5, q3, q4, q5, r3, r4, r5, s3, s4, s5, v1, v2, v3, v4, mixC, go_sem, Int.reduceTMod, Int.reduceTDiv, Int.reduceDiv, Int.reduceMod, Int.reduceAdd, Int.reduceSub, Int.reduceMul, Int.reduceNeg, Int.reducePow, Int.reduceEq, ↓reduceIte, Nat.reduceEqDiff, Nat.reduceAdd, Nat.reduceMul, Nat.reduceLeDiff, Nat.reduceSub, Nat.reduceLT, Int.reduceToNat, Int.reduceLT, Int.reduceLE, reduceCtorEq]
  repeat' ((first | refine FK_split (fun h_ => ?_) (fun h_ => ?_) | refine GK_split (fun h_ => ?_) (fun h_ => ?_) | refine ite_both (fun h_ => ?_) (fun h_ => ?_)) <;> (try simp only [decide_eq_true_eq, decide_eq_false_iff_not, Bool.not_true, Bool.not_false, Bool.not_eq_true', Bool.not_eq_false', Bool.not_eq_eq_eq_not, Decidable.not_not] at h_) <;> (try simp only [r34_0, r34_1, r34_2, r34_4, r34_3, r34_5, c34, F34, l34_0, XK_loop, w, p3, p4, p5, q3, q4, q5, r3, r4, r5, s3, s4, s5, v1, v2, v3, v4, mixC, h_, go_sem, Int.reduceTMod, Int.reduceTDiv, Int.reduceDiv, Int.reduceMod, Int.reduceAdd, Int.reduceSub, Int.reduceMul, Int.reduceNeg, Int.reducePow, Int.reduceEq, ↓reduceIte, Nat.reduceEqDiff, Nat.reduceAdd, Nat.reduceMul, Nat.reduceLeDiff, Nat.reduceSub, Nat.reduceLT, Int.reduceToNat, Int.reduceLT, Int.reduceLE, reduceCtorEq]))
end Go.Proofs.Ytffhhgcgnillaaa.Sy
