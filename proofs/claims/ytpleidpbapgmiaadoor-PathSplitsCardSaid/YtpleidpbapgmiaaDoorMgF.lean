import Derived.Test.YtpleidpbapgmiaaDoorMgE
/- Curves: rows of points, and their halves. Conditions: those that each theorem names. -/
namespace Go.Proofs.YtpleidpbapgmiaaDoor.Sy.Cu
open Go Go.Proofs
set_option linter.unusedSimpArgs false
set_option linter.unusedVariables false
attribute [local go_sem] R_nil R_mv R_pick R_alloc R_box R_build R_bslice R_load1 R_loadA R_store R_nilchk R_bin R_beq R_eqv R_eqnil R_un R_conv R_mkfn R_mkslice R_slS R_slA R_fadr R_fld R_iadrA R_iadrS R_idxA R_ext R_len R_lenC R_cap R_app R_appz R_pre R_cpy R_mn R_mx
  noId Bool.false_or evalOp evO evOs upd_upd upd_at unfrz_at putE_some putE_none Then_some X_seq X_reg X_dreg X_ureg X_ret X_skip X_exit X_block X_condK condK_bool Next_n Next_x Next_r Out_n Out_x Out_r Ret_n Ret_r
  bin_shr1 bin_add bin_sub bin_mul bin_lss bin_leq bin_gtr bin_geq bin_eql bin_neq un_not un_neg boolOf_b boolOf_tup R_guard Option.map_some evRes pack_one pack_two pack_three pack_none List.getD_cons_zero List.getD_cons_succ getD_nil
  Option.some.injEq exists_eq_left' Reg.cs? fillC setL List.set_cons_zero List.set_cons_succ List.length_cons List.length_nil rd_upd rdB wr List.drop_zero List.drop_succ_cons List.take_succ_cons List.take_zero List.getElem?_cons_zero List.getElem?_cons_succ
  ix Int.toNat_zero lenO_sl lenO_nil sn1 ns1 sn2 ns2 sn3 ns3 sn4 ns4 sn5 ns5 sn6 ns6 sn7 ns7 sn8 ns8 sn9 ns9 sn10 ns10 sn11 ns11 sn12 ns12 sk1_2 sk1_3 sk1_4 sk1_5 sk1_6 sk1_7 sk1_8 sk2_1 sk2_3 sk2_4 sk2_5 sk2_6 sk2_7 sk2_8 sk3_1 sk3_2 sk3_4 sk3_5 sk3_6 sk3_7 sk3_8 sk4_1 sk4_2 sk4_3 sk4_5 sk4_6 sk4_7 sk4_8 sk5_1 sk5_2 sk5_3 sk5_4 sk5_6 sk5_7 sk5_8 sk6_1 sk6_2 sk6_3 sk6_4 sk6_5 sk6_7 sk6_8 sk7_1 sk7_2 sk7_3 sk7_4 sk7_5 sk7_6 sk7_8 sk8_1 sk8_2 sk8_3 sk8_4 sk8_5 sk8_6 sk8_7

def mid (p q : Pt) : Pt := ⟨(p.x + q.x) / 2, (p.y + q.y) / 2⟩
theorem rm_iff {a : Int} : rm a = true ↔ -2147483648 ≤ a ∧ a ≤ 2147483648 := by simp [rm]
theorem inP_iff {p : Pt} : inP p = true ↔ (-2147483648 ≤ p.x ∧ p.x ≤ 2147483648) ∧ (-2147483648 ≤ p.y ∧ p.y ≤ 2147483648) := by simp [inP, rm_iff]
theorem inP_mid {p q : Pt} (hp : inP p = true) (hq : inP q = true) : inP (mid p q) = true := by
  rw [inP_iff] at *
  simp only [mid]
  omega
theorem Mid (p q : Pt) (hp : inP p = true) (hq : inP q = true) (m : Mem) (n : Nat) : Fn TA 43 [p.r, q.r] m n (fun r _ _ => r = (mid p q).r) := by
  refine (Mid47 p q m n).mono ?_
  rintro _ _ _ rfl
  rw [inP_iff] at *
  rw [wr_eq (by omega) (by omega), wr_eq (by omega) (by omega)]
  rfl

inductive Cv where
  | quad (a b c : Pt)
  | cub (a b c d : Pt)
def Cv.row : Cv → List Cell
  | .quad a b c => [I a.x, I a.y, I b.x, I b.y, I c.x, I c.y, I 0, I 0, I 3]
  | .cub a b c d => [I a.x, I a.y, I b.x, I b.y, I c.x, I c.y, I d.x, I d.y, I 4]
def Cv.inP : Cv → Bool
  | .quad a b c => Sy.inP a && Sy.inP b && Sy.inP c
  | .cub a b c d => Sy.inP a && Sy.inP b && Sy.inP c && Sy.inP d
def Cv.fst : Cv → Cv
  | .quad a b c => .quad a (mid a b) (mid (mid a b) (mid b c))
  | .cub a b c d => .cub a (mid a b) (mid (mid a b) (mid b c)) (mid (mid (mid a b) (mid b c)) (mid (mid b c) (mid c d)))
def Cv.snd : Cv → Cv
  | .quad a b c => .quad (mid (mid a b) (mid b c)) (mid b c) c
  | .cub a b c d => .cub (mid (mid (mid a b) (mid b c)) (mid (mid b c) (mid c d))) (mid (mid b c) (mid c d)) (mid c d) d

set_option maxHeartbeats 4000000 in
theorem halves61q (a b c : Pt) (hv : (Cv.quad a b c).inP = true) (m : Mem) (n : Nat) : Fn TA 56 [.agg (Cv.quad a b c).row] m n (fun r _ _ => r = .tup [.agg (Cv.quad a b c).fst.row, .agg (Cv.quad a b c).snd.row]) := by
    refine Fn_of (fn := F56) rfl (by simp [F56]) ?_
    obtain ⟨L, hL⟩ : ∃ L_, L_ = SC.loop l56_0 := ⟨_, rfl⟩
    have hX : ∀ s Q, X TA l56_0 s (Next Q (fun s_ => X TA L s_ Q)) → X TA L s Q := by subst hL; exact fun _ _ h => X_loop h
    obtain ⟨L1, hL1⟩ : ∃ L_, L_ = SC.loop l56_1 := ⟨_, rfl⟩
    have hX1 : ∀ s Q, X TA l56_1 s (Next Q (fun s_ => X TA L1 s_ Q)) → X TA L1 s Q := by subst hL1; exact fun _ _ h => X_loop h
    simp only [Cv.inP, Bool.and_eq_true] at hv
    obtain ⟨⟨ha, hb⟩, hc⟩ := hv
    have hab := inP_mid ha hb
    have hbc := inP_mid hb hc
    have wi : ∀ k : Int, -100 ≤ k → k ≤ 100 → IntKind.i64.wrap k = k := fun k h1 h2 => wr_eq (by omega) (by omega)
    have w2 : IntKind.i64.wrap 2 = 2 := by decide
    simp only [F56, c56, r56_0, r56_1, r56_2, Cv.row, ← hL, ← hL1, disOk, List.all_cons, List.all_nil, idOf, List.replicate, go_sem, Int.reduceTMod, Int.reduceTDiv, Int.reduceDiv, Int.reduceMod, Int.reduceAdd, Int.reduceSub, Int.reduceMul, Int.reduceNeg, Int.reducePow, Int.reduceEq, bne_iff_ne, Int.cast_ofNat_Int, ↓reduceIte, Nat.reduceEqDiff, Nat.reduceAdd, Nat.reduceMul, Nat.reduceLeDiff, Nat.reduceSub, Nat.reduceLT, Int.reduceToNat, Int.reduceLT, Int.reduceLE, reduceCtorEq, Nat.zero_add, Nat.add_zero, and_self, and_true, true_and, ne_eq, not_false_eq_true, not_true_eq_false, decide_true, decide_false, Bool.false_eq_true, Bool.not_true, Bool.not_false, Bool.true_and, Bool.and_true, Bool.or_false, Bool.false_or, Bool.and_self]
    refine hX1 _ _ ?_
    simp only [l56_1, ← hL, r56_3, r56_4, r56_5, r56_6, r56_7, disOk, List.all_cons, List.all_nil, idOf, wi, w2, Int.reduceNeg, Int.reduceSub, Int.reduceAdd, go_sem, Int.reduceTMod, Int.reduceTDiv, Int.reduceDiv, Int.reduceMod, Int.reduceAdd, Int.reduceSub, Int.reduceMul, Int.reduceNeg, Int.reducePow, Int.reduceEq, bne_iff_ne, Int.cast_ofNat_Int, ↓reduceIte, Nat.reduceEqDiff, Nat.reduceAdd, Nat.reduceMul, Nat.reduceLeDiff, Nat.reduceSub, Nat.reduceLT, Int.reduceToNat, Int.reduceLT, Int.reduceLE, reduceCtorEq, Nat.zero_add, Nat.add_zero, and_self, and_true, true_and, ne_eq, not_false_eq_true, not_true_eq_false, decide_true, decide_false, Bool.false_eq_true, Bool.not_true, Bool.not_false, Bool.true_and, Bool.and_true, Bool.or_false, Bool.false_or, Bool.and_self]
    refine hX _ _ ?_
    simp only [l56_0, r56_8, r56_9, r56_10, wi, w2, Int.reduceAdd, Int.reduceSub, go_sem, Int.reduceTMod, Int.reduceTDiv, Int.reduceDiv, Int.reduceMod, Int.reduceAdd, Int.reduceSub, Int.reduceMul, Int.reduceNeg, Int.reducePow, Int.reduceEq, bne_iff_ne, Int.cast_ofNat_Int, ↓reduceIte, Nat.reduceEqDiff, Nat.reduceAdd, Nat.reduceMul, Nat.reduceLeDiff, Nat.reduceSub, Nat.reduceLT, Int.reduceToNat, Int.reduceLT, Int.reduceLE, reduceCtorEq, Nat.zero_add, Nat.add_zero, and_self, and_true, true_and, ne_eq, not_false_eq_true, not_true_eq_false, decide_true, decide_false, Bool.false_eq_true, Bool.not_true, Bool.not_false, Bool.true_and, Bool.and_true, Bool.or_false, Bool.false_or, Bool.and_self]
    refine R_callz (by first | (simp only [flats, Reg.flat, Cell.flat, List.all_cons, List.all_nil, Bool.and_self, go_sem, Int.reduceTMod, Int.reduceTDiv, Int.reduceDiv, Int.reduceMod, Int.reduceAdd, Int.reduceSub, Int.reduceMul, Int.reduceNeg, Int.reducePow, Int.reduceEq, bne_iff_ne, Int.cast_ofNat_Int, ↓reduceIte, Nat.reduceEqDiff, Nat.reduceAdd, Nat.reduceMul, Nat.reduceLeDiff, Nat.reduceSub, Nat.reduceLT, Int.reduceToNat, Int.reduceLT, Int.reduceLE, reduceCtorEq, Nat.zero_add, Nat.add_zero, and_self, and_true, true_and, ne_eq, not_false_eq_true, not_true_eq_false, decide_true, decide_false, Bool.false_eq_true, Bool.not_true, Bool.not_false, Bool.true_and, Bool.and_true, Bool.or_false, Bool.false_or, Bool.and_self]; done) | rfl) ?_
    try simp only [go_sem, Int.reduceTMod, Int.reduceTDiv, Int.reduceDiv, Int.reduceMod, Int.reduceAdd, Int.reduceSub, Int.reduceMul, Int.reduceNeg, Int.reducePow, Int.reduceEq, bne_iff_ne, Int.cast_ofNat_Int, ↓reduceIte, Nat.reduceEqDiff, Nat.reduceAdd, Nat.reduceMul, Nat.reduceLeDiff, Nat.reduceSub, Nat.reduceLT, Int.reduceToNat, Int.reduceLT, Int.reduceLE, reduceCtorEq, Nat.zero_add, Nat.add_zero, and_self, and_true, true_and, ne_eq, not_false_eq_true, not_true_eq_false, decide_true, decide_false, Bool.false_eq_true, Bool.not_true, Bool.not_false, Bool.true_and, Bool.and_true, Bool.or_false, Bool.false_or, Bool.and_self]
    refine Fn.mono (Mid (a) (b) ha hb _ _) ?_
    rintro _ _ _ rfl
    refine ⟨rfl, ?_⟩
    try simp only [r56_11, wi, w2, Int.reduceAdd, go_sem, Int.reduceTMod, Int.reduceTDiv, Int.reduceDiv, Int.reduceMod, Int.reduceAdd, Int.reduceSub, Int.reduceMul, Int.reduceNeg, Int.reducePow, Int.reduceEq, bne_iff_ne, Int.cast_ofNat_Int, ↓reduceIte, Nat.reduceEqDiff, Nat.reduceAdd, Nat.reduceMul, Nat.reduceLeDiff, Nat.reduceSub, Nat.reduceLT, Int.reduceToNat, Int.reduceLT, Int.reduceLE, reduceCtorEq, Nat.zero_add, Nat.add_zero, and_self, and_true, true_and, ne_eq, not_false_eq_true, not_true_eq_false, decide_true, decide_false, Bool.false_eq_true, Bool.not_true, Bool.not_false, Bool.true_and, Bool.and_true, Bool.or_false, Bool.false_or, Bool.and_self]
    refine hX _ _ ?_
    simp only [l56_0, r56_8, r56_9, r56_10, wi, w2, Int.reduceAdd, Int.reduceSub, go_sem, Int.reduceTMod, Int.reduceTDiv, Int.reduceDiv, Int.reduceMod, Int.reduceAdd, Int.reduceSub, Int.reduceMul, Int.reduceNeg, Int.reducePow, Int.reduceEq, bne_iff_ne, Int.cast_ofNat_Int, ↓reduceIte, Nat.reduceEqDiff, Nat.reduceAdd, Nat.reduceMul, Nat.reduceLeDiff, Nat.reduceSub, Nat.reduceLT, Int.reduceToNat, Int.reduceLT, Int.reduceLE, reduceCtorEq, Nat.zero_add, Nat.add_zero, and_self, and_true, true_and, ne_eq, not_false_eq_true, not_true_eq_false, decide_true, decide_false, Bool.false_eq_true, Bool.not_true, Bool.not_false, Bool.true_and, Bool.and_true, Bool.or_false, Bool.false_or, Bool.and_self]
    refine R_callz (by first | (simp only [flats, Reg.flat, Cell.flat, List.all_cons, List.all_nil, Bool.and_self, go_sem, Int.reduceTMod, Int.reduceTDiv, Int.reduceDiv, Int.reduceMod, Int.reduceAdd, Int.reduceSub, Int.reduceMul, Int.reduceNeg, Int.reducePow, Int.reduceEq, bne_iff_ne, Int.cast_ofNat_Int, ↓reduceIte, Nat.reduceEqDiff, Nat.reduceAdd, Nat.reduceMul, Nat.reduceLeDiff, Nat.reduceSub, Nat.reduceLT, Int.reduceToNat, Int.reduceLT, Int.reduceLE, reduceCtorEq, Nat.zero_add, Nat.add_zero, and_self, and_true, true_and, ne_eq, not_false_eq_true, not_true_eq_false, decide_true, decide_false, Bool.false_eq_true, Bool.not_true, Bool.not_false, Bool.true_and, Bool.and_true, Bool.or_false, Bool.false_or, Bool.and_self]; done) | rfl) ?_
    try simp only [go_sem, Int.reduceTMod, Int.reduceTDiv, Int.reduceDiv, Int.reduceMod, Int.reduceAdd, Int.reduceSub, Int.reduceMul, Int.reduceNeg, Int.reducePow, Int.reduceEq, bne_iff_ne, Int.cast_ofNat_Int, ↓reduceIte, Nat.reduceEqDiff, Nat.reduceAdd, Nat.reduceMul, Nat.reduceLeDiff, Nat.reduceSub, Nat.reduceLT, Int.reduceToNat, Int.reduceLT, Int.reduceLE, reduceCtorEq, Nat.zero_add, Nat.add_zero, and_self, and_true, true_and, ne_eq, not_false_eq_true, not_true_eq_false, decide_true, decide_false, Bool.false_eq_true, Bool.not_true, Bool.not_false, Bool.true_and, Bool.and_true, Bool.or_false, Bool.false_or, Bool.and_self]
    refine Fn.mono (Mid (b) (c) hb hc _ _) ?_
    rintro _ _ _ rfl
    refine ⟨rfl, ?_⟩
    try simp only [r56_11, wi, w2, Int.reduceAdd, go_sem, Int.reduceTMod, Int.reduceTDiv, Int.reduceDiv, Int.reduceMod, Int.reduceAdd, Int.reduceSub, Int.reduceMul, Int.reduceNeg, Int.reducePow, Int.reduceEq, bne_iff_ne, Int.cast_ofNat_Int, ↓reduceIte, Nat.reduceEqDiff, Nat.reduceAdd, Nat.reduceMul, Nat.reduceLeDiff, Nat.reduceSub, Nat.reduceLT, Int.reduceToNat, Int.reduceLT, Int.reduceLE, reduceCtorEq, Nat.zero_add, Nat.add_zero, and_self, and_true, true_and, ne_eq, not_false_eq_true, not_true_eq_false, decide_true, decide_false, Bool.false_eq_true, Bool.not_true, Bool.not_false, Bool.true_and, Bool.and_true, Bool.or_false, Bool.false_or, Bool.and_self]
    refine hX _ _ ?_
    simp only [l56_0, r56_8, r56_12, wi, w2, Int.reduceAdd, go_sem, Int.reduceTMod, Int.reduceTDiv, Int.reduceDiv, Int.reduceMod, Int.reduceAdd, Int.reduceSub, Int.reduceMul, Int.reduceNeg, Int.reducePow, Int.reduceEq, bne_iff_ne, Int.cast_ofNat_Int, ↓reduceIte, Nat.reduceEqDiff, Nat.reduceAdd, Nat.reduceMul, Nat.reduceLeDiff, Nat.reduceSub, Nat.reduceLT, Int.reduceToNat, Int.reduceLT, Int.reduceLE, reduceCtorEq, Nat.zero_add, Nat.add_zero, and_self, and_true, true_and, ne_eq, not_false_eq_true, not_true_eq_false, decide_true, decide_false, Bool.false_eq_true, Bool.not_true, Bool.not_false, Bool.true_and, Bool.and_true, Bool.or_false, Bool.false_or, Bool.and_self]
    refine hX1 _ _ ?_
    simp only [l56_1, ← hL, r56_3, r56_4, r56_5, r56_6, r56_7, disOk, List.all_cons, List.all_nil, idOf, wi, w2, Int.reduceNeg, Int.reduceSub, Int.reduceAdd, go_sem, Int.reduceTMod, Int.reduceTDiv, Int.reduceDiv, Int.reduceMod, Int.reduceAdd, Int.reduceSub, Int.reduceMul, Int.reduceNeg, Int.reducePow, Int.reduceEq, bne_iff_ne, Int.cast_ofNat_Int, ↓reduceIte, Nat.reduceEqDiff, Nat.reduceAdd, Nat.reduceMul, Nat.reduceLeDiff, Nat.reduceSub, Nat.reduceLT, Int.reduceToNat, Int.reduceLT, Int.reduceLE, reduceCtorEq, Nat.zero_add, Nat.add_zero, and_self, and_true, true_and, ne_eq, not_false_eq_true, not_true_eq_false, decide_true, decide_false, Bool.false_eq_true, Bool.not_true, Bool.not_false, Bool.true_and, Bool.and_true, Bool.or_false, Bool.false_or, Bool.and_self]
    refine hX _ _ ?_
    simp only [l56_0, r56_8, r56_9, r56_10, wi, w2, Int.reduceAdd, Int.reduceSub, go_sem, Int.reduceTMod, Int.reduceTDiv, Int.reduceDiv, Int.reduceMod, Int.reduceAdd, Int.reduceSub, Int.reduceMul, Int.reduceNeg, Int.reducePow, Int.reduceEq, bne_iff_ne, Int.cast_ofNat_Int, ↓reduceIte, Nat.reduceEqDiff, Nat.reduceAdd, Nat.reduceMul, Nat.reduceLeDiff, Nat.reduceSub, Nat.reduceLT, Int.reduceToNat, Int.reduceLT, Int.reduceLE, reduceCtorEq, Nat.zero_add, Nat.add_zero, and_self, and_true, true_and, ne_eq, not_false_eq_true, not_true_eq_false, decide_true, decide_false, Bool.false_eq_true, Bool.not_true, Bool.not_false, Bool.true_and, Bool.and_true, Bool.or_false, Bool.false_or, Bool.and_self]
    refine R_callz (by first | (simp only [flats, Reg.flat, Cell.flat, List.all_cons, List.all_nil, Bool.and_self, go_sem, Int.reduceTMod, Int.reduceTDiv, Int.reduceDiv, Int.reduceMod, Int.reduceAdd, Int.reduceSub, Int.reduceMul, Int.reduceNeg, Int.reducePow, Int.reduceEq, bne_iff_ne, Int.cast_ofNat_Int, ↓reduceIte, Nat.reduceEqDiff, Nat.reduceAdd, Nat.reduceMul, Nat.reduceLeDiff, Nat.reduceSub, Nat.reduceLT, Int.reduceToNat, Int.reduceLT, Int.reduceLE, reduceCtorEq, Nat.zero_add, Nat.add_zero, and_self, and_true, true_and, ne_eq, not_false_eq_true, not_true_eq_false, decide_true, decide_false, Bool.false_eq_true, Bool.not_true, Bool.not_false, Bool.true_and, Bool.and_true, Bool.or_false, Bool.false_or, Bool.and_self]; done) | rfl) ?_
    try simp only [go_sem, Int.reduceTMod, Int.reduceTDiv, Int.reduceDiv, Int.reduceMod, Int.reduceAdd, Int.reduceSub, Int.reduceMul, Int.reduceNeg, Int.reducePow, Int.reduceEq, bne_iff_ne, Int.cast_ofNat_Int, ↓reduceIte, Nat.reduceEqDiff, Nat.reduceAdd, Nat.reduceMul, Nat.reduceLeDiff, Nat.reduceSub, Nat.reduceLT, Int.reduceToNat, Int.reduceLT, Int.reduceLE, reduceCtorEq, Nat.zero_add, Nat.add_zero, and_self, and_true, true_and, ne_eq, not_false_eq_true, not_true_eq_false, decide_true, decide_false, Bool.false_eq_true, Bool.not_true, Bool.not_false, Bool.true_and, Bool.and_true, Bool.or_false, Bool.false_or, Bool.and_self]
    refine Fn.mono (Mid (mid a b) (mid b c) hab hbc _ _) ?_
    rintro _ _ _ rfl
    refine ⟨rfl, ?_⟩
    try simp only [r56_11, wi, w2, Int.reduceAdd, go_sem, Int.reduceTMod, Int.reduceTDiv, Int.reduceDiv, Int.reduceMod, Int.reduceAdd, Int.reduceSub, Int.reduceMul, Int.reduceNeg, Int.reducePow, Int.reduceEq, bne_iff_ne, Int.cast_ofNat_Int, ↓reduceIte, Nat.reduceEqDiff, Nat.reduceAdd, Nat.reduceMul, Nat.reduceLeDiff, Nat.reduceSub, Nat.reduceLT, Int.reduceToNat, Int.reduceLT, Int.reduceLE, reduceCtorEq, Nat.zero_add, Nat.add_zero, and_self, and_true, true_and, ne_eq, not_false_eq_true, not_true_eq_false, decide_true, decide_false, Bool.false_eq_true, Bool.not_true, Bool.not_false, Bool.true_and, Bool.and_true, Bool.or_false, Bool.false_or, Bool.and_self]
    refine hX _ _ ?_
    simp only [l56_0, r56_8, r56_12, wi, w2, Int.reduceAdd, go_sem, Int.reduceTMod, Int.reduceTDiv, Int.reduceDiv, Int.reduceMod, Int.reduceAdd, Int.reduceSub, Int.reduceMul, Int.reduceNeg, Int.reducePow, Int.reduceEq, bne_iff_ne, Int.cast_ofNat_Int, ↓reduceIte, Nat.reduceEqDiff, Nat.reduceAdd, Nat.reduceMul, Nat.reduceLeDiff, Nat.reduceSub, Nat.reduceLT, Int.reduceToNat, Int.reduceLT, Int.reduceLE, reduceCtorEq, Nat.zero_add, Nat.add_zero, and_self, and_true, true_and, ne_eq, not_false_eq_true, not_true_eq_false, decide_true, decide_false, Bool.false_eq_true, Bool.not_true, Bool.not_false, Bool.true_and, Bool.and_true, Bool.or_false, Bool.false_or, Bool.and_self]
    refine hX1 _ _ ?_
    simp only [l56_1, ← hL, r56_3, r56_4, r56_5, r56_6, r56_7, disOk, List.all_cons, List.all_nil, idOf, wi, w2, Int.reduceNeg, Int.reduceSub, Int.reduceAdd, go_sem, Int.reduceTMod, Int.reduceTDiv, Int.reduceDiv, Int.reduceMod, Int.reduceAdd, Int.reduceSub, Int.reduceMul, Int.reduceNeg, Int.reducePow, Int.reduceEq, bne_iff_ne, Int.cast_ofNat_Int, ↓reduceIte, Nat.reduceEqDiff, Nat.reduceAdd, Nat.reduceMul, Nat.reduceLeDiff, Nat.reduceSub, Nat.reduceLT, Int.reduceToNat, Int.reduceLT, Int.reduceLE, reduceCtorEq, Nat.zero_add, Nat.add_zero, and_self, and_true, true_and, ne_eq, not_false_eq_true, not_true_eq_false, decide_true, decide_false, Bool.false_eq_true, Bool.not_true, Bool.not_false, Bool.true_and, Bool.and_true, Bool.or_false, Bool.false_or, Bool.and_self]
    refine hX _ _ ?_
    simp only [l56_0, r56_8, r56_12, wi, w2, Int.reduceAdd, go_sem, Int.reduceTMod, Int.reduceTDiv, Int.reduceDiv, Int.reduceMod, Int.reduceAdd, Int.reduceSub, Int.reduceMul, Int.reduceNeg, Int.reducePow, Int.reduceEq, bne_iff_ne, Int.cast_ofNat_Int, ↓reduceIte, Nat.reduceEqDiff, Nat.reduceAdd, Nat.reduceMul, Nat.reduceLeDiff, Nat.reduceSub, Nat.reduceLT, Int.reduceToNat, Int.reduceLT, Int.reduceLE, reduceCtorEq, Nat.zero_add, Nat.add_zero, and_self, and_true, true_and, ne_eq, not_false_eq_true, not_true_eq_false, decide_true, decide_false, Bool.false_eq_true, Bool.not_true, Bool.not_false, Bool.true_and, Bool.and_true, Bool.or_false, Bool.false_or, Bool.and_self]
    refine hX1 _ _ ?_
    simp only [l56_1, r56_3, r56_13, disOk, List.all_cons, List.all_nil, idOf, Cv.fst, Cv.snd, Cv.row, go_sem, Int.reduceTMod, Int.reduceTDiv, Int.reduceDiv, Int.reduceMod, Int.reduceAdd, Int.reduceSub, Int.reduceMul, Int.reduceNeg, Int.reducePow, Int.reduceEq, bne_iff_ne, Int.cast_ofNat_Int, ↓reduceIte, Nat.reduceEqDiff, Nat.reduceAdd, Nat.reduceMul, Nat.reduceLeDiff, Nat.reduceSub, Nat.reduceLT, Int.reduceToNat, Int.reduceLT, Int.reduceLE, reduceCtorEq, Nat.zero_add, Nat.add_zero, and_self, and_true, true_and, ne_eq, not_false_eq_true, not_true_eq_false, decide_true, decide_false, Bool.false_eq_true, Bool.not_true, Bool.not_false, Bool.true_and, Bool.and_true, Bool.or_false, Bool.false_or, Bool.and_self]

set_option maxHeartbeats 8000000 in
theorem halves61c (a b c d : Pt) (hv : (Cv.cub a b c d).inP = true) (m : Mem) (n : Nat) : Fn TA 56 [.agg (Cv.cub a b c d).row] m n (fun r _ _ => r = .tup [.agg (Cv.cub a b c d).fst.row, .agg (Cv.cub a b c d).snd.row]) := by
    refine Fn_of (fn := F56) rfl (by simp [F56]) ?_
    obtain ⟨L, hL⟩ : ∃ L_, L_ = SC.loop l56_0 := ⟨_, rfl⟩
    have hX : ∀ s Q, X TA l56_0 s (Next Q (fun s_ => X TA L s_ Q)) → X TA L s Q := by subst hL; exact fun _ _ h => X_loop h
    obtain ⟨L1, hL1⟩ : ∃ L_, L_ = SC.loop l56_1 := ⟨_, rfl⟩
    have hX1 : ∀ s Q, X TA l56_1 s (Next Q (fun s_ => X TA L1 s_ Q)) → X TA L1 s Q := by subst hL1; exact fun _ _ h => X_loop h
    simp only [Cv.inP, Bool.and_eq_true] at hv
    obtain ⟨⟨⟨ha, hb⟩, hc⟩, hd⟩ := hv
    have hab := inP_mid ha hb
    have hbc := inP_mid hb hc
    have hcd := inP_mid hc hd
    have habc := inP_mid hab hbc
    have hbcd := inP_mid hbc hcd
    have wi : ∀ k : Int, -100 ≤ k → k ≤ 100 → IntKind.i64.wrap k = k := fun k h1 h2 => wr_eq (by omega) (by omega)
    have w2 : IntKind.i64.wrap 2 = 2 := by decide
    simp only [F56, c56, r56_0, r56_1, r56_2, Cv.row, ← hL, ← hL1, disOk, List.all_cons, List.all_nil, idOf, List.replicate, go_sem, Int.reduceTMod, Int.reduceTDiv, Int.reduceDiv, Int.reduceMod, Int.reduceAdd, Int.reduceSub, Int.reduceMul, Int.reduceNeg, Int.reducePow, Int.reduceEq, bne_iff_ne, Int.cast_ofNat_Int, ↓reduceIte, Nat.reduceEqDiff, Nat.reduceAdd, Nat.reduceMul, Nat.reduceLeDiff, Nat.reduceSub, Nat.reduceLT, Int.reduceToNat, Int.reduceLT, Int.reduceLE, reduceCtorEq, Nat.zero_add, Nat.add_zero, and_self, and_true, true_and, ne_eq, not_false_eq_true, not_true_eq_false, decide_true, decide_false, Bool.false_eq_true, Bool.not_true, Bool.not_false, Bool.true_and, Bool.and_true, Bool.or_false, Bool.false_or, Bool.and_self]
    refine hX1 _ _ ?_
    simp only [l56_1, ← hL, r56_3, r56_4, r56_5, r56_6, r56_7, disOk, List.all_cons, List.all_nil, idOf, wi, w2, Int.reduceNeg, Int.reduceSub, Int.reduceAdd, go_sem, Int.reduceTMod, Int.reduceTDiv, Int.reduceDiv, Int.reduceMod, Int.reduceAdd, Int.reduceSub, Int.reduceMul, Int.reduceNeg, Int.reducePow, Int.reduceEq, bne_iff_ne, Int.cast_ofNat_Int, ↓reduceIte, Nat.reduceEqDiff, Nat.reduceAdd, Nat.reduceMul, Nat.reduceLeDiff, Nat.reduceSub, Nat.reduceLT, Int.reduceToNat, Int.reduceLT, Int.reduceLE, reduceCtorEq, Nat.zero_add, Nat.add_zero, and_self, and_true, true_and, ne_eq, not_false_eq_true, not_true_eq_false, decide_true, decide_false, Bool.false_eq_true, Bool.not_true, Bool.not_false, Bool.true_and, Bool.and_true, Bool.or_false, Bool.false_or, Bool.and_self]
    refine hX _ _ ?_
    simp only [l56_0, r56_8, r56_9, r56_10, wi, w2, Int.reduceAdd, Int.reduceSub, go_sem, Int.reduceTMod, Int.reduceTDiv, Int.reduceDiv, Int.reduceMod, Int.reduceAdd, Int.reduceSub, Int.reduceMul, Int.reduceNeg, Int.reducePow, Int.reduceEq, bne_iff_ne, Int.cast_ofNat_Int, ↓reduceIte, Nat.reduceEqDiff, Nat.reduceAdd, Nat.reduceMul, Nat.reduceLeDiff, Nat.reduceSub, Nat.reduceLT, Int.reduceToNat, Int.reduceLT, Int.reduceLE, reduceCtorEq, Nat.zero_add, Nat.add_zero, and_self, and_true, true_and, ne_eq, not_false_eq_true, not_true_eq_false, decide_true, decide_false, Bool.false_eq_true, Bool.not_true, Bool.not_false, Bool.true_and, Bool.and_true, Bool.or_false, Bool.false_or, Bool.and_self]
    refine R_callz (by first | (simp only [flats, Reg.flat, Cell.flat, List.all_cons, List.all_nil, Bool.and_self, go_sem, Int.reduceTMod, Int.reduceTDiv, Int.reduceDiv, Int.reduceMod, Int.reduceAdd, Int.reduceSub, Int.reduceMul, Int.reduceNeg, Int.reducePow, Int.reduceEq, bne_iff_ne, Int.cast_ofNat_Int, ↓reduceIte, Nat.reduceEqDiff, Nat.reduceAdd, Nat.reduceMul, Nat.reduceLeDiff, Nat.reduceSub, Nat.reduceLT, Int.reduceToNat, Int.reduceLT, Int.reduceLE, reduceCtorEq, Nat.zero_add, Nat.add_zero, and_self, and_true, true_and, ne_eq, not_false_eq_true, not_true_eq_false, decide_true, decide_false, Bool.false_eq_true, Bool.not_true, Bool.not_false, Bool.true_and, Bool.and_true, Bool.or_false, Bool.false_or, Bool.and_self]; done) | rfl) ?_
    try simp only [go_sem, Int.reduceTMod, Int.reduceTDiv, Int.reduceDiv, Int.reduceMod, Int.reduceAdd, Int.reduceSub, Int.reduceMul, Int.reduceNeg, Int.reducePow, Int.reduceEq, bne_iff_ne, Int.cast_ofNat_Int, ↓reduceIte, Nat.reduceEqDiff, Nat.reduceAdd, Nat.reduceMul, Nat.reduceLeDiff, Nat.reduceSub, Nat.reduceLT, Int.reduceToNat, Int.reduceLT, Int.reduceLE, reduceCtorEq, Nat.zero_add, Nat.add_zero, and_self, and_true, true_and, ne_eq, not_false_eq_true, not_true_eq_false, decide_true, decide_false, Bool.false_eq_true, Bool.not_true, Bool.not_false, Bool.true_and, Bool.and_true, Bool.or_false, Bool.false_or, Bool.and_self]
    refine Fn.mono (Mid (a) (b) ha hb _ _) ?_
    rintro _ _ _ rfl
    refine ⟨rfl, ?_⟩
    try simp only [r56_11, wi, w2, Int.reduceAdd, go_sem, Int.reduceTMod, Int.reduceTDiv, Int.reduceDiv, Int.reduceMod, Int.reduceAdd, Int.reduceSub, Int.reduceMul, Int.reduceNeg, Int.reducePow, Int.reduceEq, bne_iff_ne, Int.cast_ofNat_Int, ↓reduceIte, Nat.reduceEqDiff, Nat.reduceAdd, Nat.reduceMul, Nat.reduceLeDiff, Nat.reduceSub, Nat.reduceLT, Int.reduceToNat, Int.reduceLT, Int.reduceLE, reduceCtorEq, Nat.zero_add, Nat.add_zero, and_self, and_true, true_and, ne_eq, not_false_eq_true, not_true_eq_false, decide_true, decide_false, Bool.false_eq_true, Bool.not_true, Bool.not_false, Bool.true_and, Bool.and_true, Bool.or_false, Bool.false_or, Bool.and_self]
    refine hX _ _ ?_
    simp only [l56_0, r56_8, r56_9, r56_10, wi, w2, Int.reduceAdd, Int.reduceSub, go_sem, Int.reduceTMod, Int.reduceTDiv, Int.reduceDiv, Int.reduceMod, Int.reduceAdd, Int.reduceSub, Int.reduceMul, Int.reduceNeg, Int.reducePow, Int.reduceEq, bne_iff_ne, Int.cast_ofNat_Int, ↓reduceIte, Nat.reduceEqDiff, Nat.reduceAdd, Nat.reduceMul, Nat.reduceLeDiff, Nat.reduceSub, Nat.reduceLT, Int.reduceToNat, Int.reduceLT, Int.reduceLE, reduceCtorEq, Nat.zero_add, Nat.add_zero, and_self, and_true, true_and, ne_eq, not_false_eq_true, not_true_eq_false, decide_true, decide_false, Bool.false_eq_true, Bool.not_true, Bool.not_false, Bool.true_and, Bool.and_true, Bool.or_false, Bool.false_or, Bool.and_self]
    refine R_callz (by first | (simp only [flats, Reg.flat, Cell.flat, List.all_cons, List.all_nil, Bool.and_self, go_sem, Int.reduceTMod, Int.reduceTDiv, Int.reduceDiv, Int.reduceMod, Int.reduceAdd, Int.reduceSub, Int.reduceMul, Int.reduceNeg, Int.reducePow, Int.reduceEq, bne_iff_ne, Int.cast_ofNat_Int, ↓reduceIte, Nat.reduceEqDiff, Nat.reduceAdd, Nat.reduceMul, Nat.reduceLeDiff, Nat.reduceSub, Nat.reduceLT, Int.reduceToNat, Int.reduceLT, Int.reduceLE, reduceCtorEq, Nat.zero_add, Nat.add_zero, and_self, and_true, true_and, ne_eq, not_false_eq_true, not_true_eq_false, decide_true, decide_false, Bool.false_eq_true, Bool.not_true, Bool.not_false, Bool.true_and, Bool.and_true, Bool.or_false, Bool.false_or, Bool.and_self]; done) | rfl) ?_
    try simp only [go_sem, Int.reduceTMod, Int.reduceTDiv, Int.reduceDiv, Int.reduceMod, Int.reduceAdd, Int.reduceSub, Int.reduceMul, Int.reduceNeg, Int.reducePow, Int.reduceEq, bne_iff_ne, Int.cast_ofNat_Int, ↓reduceIte, Nat.reduceEqDiff, Nat.reduceAdd, Nat.reduceMul, Nat.reduceLeDiff, Nat.reduceSub, Nat.reduceLT, Int.reduceToNat, Int.reduceLT, Int.reduceLE, reduceCtorEq, Nat.zero_add, Nat.add_zero, and_self, and_true, true_and, ne_eq, not_false_eq_true, not_true_eq_false, decide_true, decide_false, Bool.false_eq_true, Bool.not_true, Bool.not_false, Bool.true_and, Bool.and_true, Bool.or_false, Bool.false_or, Bool.and_self]
    refine Fn.mono (Mid (b) (c) hb hc _ _) ?_
    rintro _ _ _ rfl
    refine ⟨rfl, ?_⟩
    try simp only [r56_11, wi, w2, Int.reduceAdd, go_sem, Int.reduceTMod, Int.reduceTDiv, Int.reduceDiv, Int.reduceMod, Int.reduceAdd, Int.reduceSub, Int.reduceMul, Int.reduceNeg, Int.reducePow, Int.reduceEq, bne_iff_ne, Int.cast_ofNat_Int, ↓reduceIte, Nat.reduceEqDiff, Nat.reduceAdd, Nat.reduceMul, Nat.reduceLeDiff, Nat.reduceSub, Nat.reduceLT, Int.reduceToNat, Int.reduceLT, Int.reduceLE, reduceCtorEq, Nat.zero_add, Nat.add_zero, and_self, and_true, true_and, ne_eq, not_false_eq_true, not_true_eq_false, decide_true, decide_false, Bool.false_eq_true, Bool.not_true, Bool.not_false, Bool.true_and, Bool.and_true, Bool.or_false, Bool.false_or, Bool.and_self]
    refine hX _ _ ?_
    simp only [l56_0, r56_8, r56_9, r56_10, wi, w2, Int.reduceAdd, Int.reduceSub, go_sem, Int.reduceTMod, Int.reduceTDiv, Int.reduceDiv, Int.reduceMod, Int.reduceAdd, Int.reduceSub, Int.reduceMul, Int.reduceNeg, Int.reducePow, Int.reduceEq, bne_iff_ne, Int.cast_ofNat_Int, ↓reduceIte, Nat.reduceEqDiff, Nat.reduceAdd, Nat.reduceMul, Nat.reduceLeDiff, Nat.reduceSub, Nat.reduceLT, Int.reduceToNat, Int.reduceLT, Int.reduceLE, reduceCtorEq, Nat.zero_add, Nat.add_zero, and_self, and_true, true_and, ne_eq, not_false_eq_true, not_true_eq_false, decide_true, decide_false, Bool.false_eq_true, Bool.not_true, Bool.not_false, Bool.true_and, Bool.and_true, Bool.or_false, Bool.false_or, Bool.and_self]
    refine R_callz (by first | (simp only [flats, Reg.flat, Cell.flat, List.all_cons, List.all_nil, Bool.and_self, go_sem, Int.reduceTMod, Int.reduceTDiv, Int.reduceDiv, Int.reduceMod, Int.reduceAdd, Int.reduceSub, Int.reduceMul, Int.reduceNeg, Int.reducePow, Int.reduceEq, bne_iff_ne, Int.cast_ofNat_Int, ↓reduceIte, Nat.reduceEqDiff, Nat.reduceAdd, Nat.reduceMul, Nat.reduceLeDiff, Nat.reduceSub, Nat.reduceLT, Int.reduceToNat, Int.reduceLT, Int.reduceLE, reduceCtorEq, Nat.zero_add, Nat.add_zero, and_self, and_true, true_and, ne_eq, not_false_eq_true, not_true_eq_false, decide_true, decide_false, Bool.false_eq_true, Bool.not_true, Bool.not_false, Bool.true_and, Bool.and_true, Bool.or_false, Bool.false_or, Bool.and_self]; done) | rfl) ?_
    try simp only [go_sem, Int.reduceTMod, Int.reduceTDiv, Int.reduceDiv, Int.reduceMod, Int.reduceAdd, Int.reduceSub, Int.reduceMul, Int.reduceNeg, Int.reducePow, Int.reduceEq, bne_iff_ne, Int.cast_ofNat_Int, ↓reduceIte, Nat.reduceEqDiff, Nat.reduceAdd, Nat.reduceMul, Nat.reduceLeDiff, Nat.reduceSub, Nat.reduceLT, Int.reduceToNat, Int.reduceLT, Int.reduceLE, reduceCtorEq, Nat.zero_add, Nat.add_zero, and_self, and_true, true_and, ne_eq, not_false_eq_true, not_true_eq_false, decide_true, decide_false, Bool.false_eq_true, Bool.not_true, Bool.not_false, Bool.true_and, Bool.and_true, Bool.or_false, Bool.false_or, Bool.and_self]
    refine Fn.mono (Mid (c) (d) hc hd _ _) ?_
    rintro _ _ _ rfl
    refine ⟨rfl, ?_⟩
    try simp only [r56_11, wi, w2, Int.reduceAdd, go_sem, Int.reduceTMod, Int.reduceTDiv, Int.reduceDiv, Int.reduceMod, Int.reduceAdd, Int.reduceSub, Int.reduceMul, Int.reduceNeg, Int.reducePow, Int.reduceEq, bne_iff_ne, Int.cast_ofNat_Int, ↓reduceIte, Nat.reduceEqDiff, Nat.reduceAdd, Nat.reduceMul, Nat.reduceLeDiff, Nat.reduceSub, Nat.reduceLT, Int.reduceToNat, Int.reduceLT, Int.reduceLE, reduceCtorEq, Nat.zero_add, Nat.add_zero, and_self, and_true, true_and, ne_eq, not_false_eq_true, not_true_eq_false, decide_true, decide_false, Bool.false_eq_true, Bool.not_true, Bool.not_false, Bool.true_and, Bool.and_true, Bool.or_false, Bool.false_or, Bool.and_self]
    refine hX _ _ ?_
    simp only [l56_0, r56_8, r56_12, wi, w2, Int.reduceAdd, go_sem, Int.reduceTMod, Int.reduceTDiv, Int.reduceDiv, Int.reduceMod, Int.reduceAdd, Int.reduceSub, Int.reduceMul, Int.reduceNeg, Int.reducePow, Int.reduceEq, bne_iff_ne, Int.cast_ofNat_Int, ↓reduceIte, Nat.reduceEqDiff, Nat.reduceAdd, Nat.reduceMul, Nat.reduceLeDiff, Nat.reduceSub, Nat.reduceLT, Int.reduceToNat, Int.reduceLT, Int.reduceLE, reduceCtorEq, Nat.zero_add, Nat.add_zero, and_self, and_true, true_and, ne_eq, not_false_eq_true, not_true_eq_false, decide_true, decide_false, Bool.false_eq_true, Bool.not_true, Bool.not_false, Bool.true_and, Bool.and_true, Bool.or_false, Bool.false_or, Bool.and_self]
    refine hX1 _ _ ?_
    simp only [l56_1, ← hL, r56_3, r56_4, r56_5, r56_6, r56_7, disOk, List.all_cons, List.all_nil, idOf, wi, w2, Int.reduceNeg, Int.reduceSub, Int.reduceAdd, go_sem, Int.reduceTMod, Int.reduceTDiv, Int.reduceDiv, Int.reduceMod, Int.reduceAdd, Int.reduceSub, Int.reduceMul, Int.reduceNeg, Int.reducePow, Int.reduceEq, bne_iff_ne, Int.cast_ofNat_Int, ↓reduceIte, Nat.reduceEqDiff, Nat.reduceAdd, Nat.reduceMul, Nat.reduceLeDiff, Nat.reduceSub, Nat.reduceLT, Int.reduceToNat, Int.reduceLT, Int.reduceLE, reduceCtorEq, Nat.zero_add, Nat.add_zero, and_self, and_true, true_and, ne_eq, not_false_eq_true, not_true_eq_false, decide_true, decide_false, Bool.false_eq_true, Bool.not_true, Bool.not_false, Bool.true_and, Bool.and_true, Bool.or_false, Bool.false_or, Bool.and_self]
    refine hX _ _ ?_
    simp only [l56_0, r56_8, r56_9, r56_10, wi, w2, Int.reduceAdd, Int.reduceSub, go_sem, Int.reduceTMod, Int.reduceTDiv, Int.reduceDiv, Int.reduceMod, Int.reduceAdd, Int.reduceSub, Int.reduceMul, Int.reduceNeg, Int.reducePow, Int.reduceEq, bne_iff_ne, Int.cast_ofNat_Int, ↓reduceIte, Nat.reduceEqDiff, Nat.reduceAdd, Nat.reduceMul, Nat.reduceLeDiff, Nat.reduceSub, Nat.reduceLT, Int.reduceToNat, Int.reduceLT, Int.reduceLE, reduceCtorEq, Nat.zero_add, Nat.add_zero, and_self, and_true, true_and, ne_eq, not_false_eq_true, not_true_eq_false, decide_true, decide_false, Bool.false_eq_true, Bool.not_true, Bool.not_false, Bool.true_and, Bool.and_true, Bool.or_false, Bool.false_or, Bool.and_self]
    refine R_callz (by first | (simp only [flats, Reg.flat, Cell.flat, List.all_cons, List.all_nil, Bool.and_self, go_sem, Int.reduceTMod, Int.reduceTDiv, Int.reduceDiv, Int.reduceMod, Int.reduceAdd, Int.reduceSub, Int.reduceMul, Int.reduceNeg, Int.reducePow, Int.reduceEq, bne_iff_ne, Int.cast_ofNat_Int, ↓reduceIte, Nat.reduceEqDiff, Nat.reduceAdd, Nat.reduceMul, Nat.reduceLeDiff, Nat.reduceSub, Nat.reduceLT, Int.reduceToNat, Int.reduceLT, Int.reduceLE, reduceCtorEq, Nat.zero_add, Nat.add_zero, and_self, and_true, true_and, ne_eq, not_false_eq_true, not_true_eq_false, decide_true, decide_false, Bool.false_eq_true, Bool.not_true, Bool.not_false, Bool.true_and, Bool.and_true, Bool.or_false, Bool.false_or, Bool.and_self]; done) | rfl) ?_
    try simp only [go_sem, Int.reduceTMod, Int.reduceTDiv, Int.reduceDiv, Int.reduceMod, Int.reduceAdd, Int.reduceSub, Int.reduceMul, Int.reduceNeg, Int.reducePow, Int.reduceEq, bne_iff_ne, Int.cast_ofNat_Int, ↓reduceIte, Nat.reduceEqDiff, Nat.reduceAdd, Nat.reduceMul, Nat.reduceLeDiff, Nat.reduceSub, Nat.reduceLT, Int.reduceToNat, Int.reduceLT, Int.reduceLE, reduceCtorEq, Nat.zero_add, Nat.add_zero, and_self, and_true, true_and, ne_eq, not_false_eq_true, not_true_eq_false, decide_true, decide_false, Bool.false_eq_true, Bool.not_true, Bool.not_false, Bool.true_and, Bool.and_true, Bool.or_false, Bool.false_or, Bool.and_self]
    refine Fn.mono (Mid (mid a b) (mid b c) hab hbc _ _) ?_
    rintro _ _ _ rfl
    refine ⟨rfl, ?_⟩
    try simp only [r56_11, wi, w2, Int.reduceAdd, go_sem, Int.reduceTMod, Int.reduceTDiv, Int.reduceDiv, Int.reduceMod, Int.reduceAdd, Int.reduceSub, Int.reduceMul, Int.reduceNeg, Int.reducePow, Int.reduceEq, bne_iff_ne, Int.cast_ofNat_Int, ↓reduceIte, Nat.reduceEqDiff, Nat.reduceAdd, Nat.reduceMul, Nat.reduceLeDiff, Nat.reduceSub, Nat.reduceLT, Int.reduceToNat, Int.reduceLT, Int.reduceLE, reduceCtorEq, Nat.zero_add, Nat.add_zero, and_self, and_true, true_and, ne_eq, not_false_eq_true, not_true_eq_false, decide_true, decide_false, Bool.false_eq_true, Bool.not_true, Bool.not_false, Bool.true_and, Bool.and_true, Bool.or_false, Bool.false_or, Bool.and_self]
    refine hX _ _ ?_
    simp only [l56_0, r56_8, r56_9, r56_10, wi, w2, Int.reduceAdd, Int.reduceSub, go_sem, Int.reduceTMod, Int.reduceTDiv, Int.reduceDiv, Int.reduceMod, Int.reduceAdd, Int.reduceSub, Int.reduceMul, Int.reduceNeg, Int.reducePow, Int.reduceEq, bne_iff_ne, Int.cast_ofNat_Int, ↓reduceIte, Nat.reduceEqDiff, Nat.reduceAdd, Nat.reduceMul, Nat.reduceLeDiff, Nat.reduceSub, Nat.reduceLT, Int.reduceToNat, Int.reduceLT, Int.reduceLE, reduceCtorEq, Nat.zero_add, Nat.add_zero, and_self, and_true, true_and, ne_eq, not_false_eq_true, not_true_eq_false, decide_true, decide_false, Bool.false_eq_true, Bool.not_true, Bool.not_false, Bool.true_and, Bool.and_true, Bool.or_false, Bool.false_or, Bool.and_self]
    refine R_callz (by first | (simp only [flats, Reg.flat, Cell.flat, List.all_cons, List.all_nil, Bool.and_self, go_sem, Int.reduceTMod, Int.reduceTDiv, Int.reduceDiv, Int.reduceMod, Int.reduceAdd, Int.reduceSub, Int.reduceMul, Int.reduceNeg, Int.reducePow, Int.reduceEq, bne_iff_ne, Int.cast_ofNat_Int, ↓reduceIte, Nat.reduceEqDiff, Nat.reduceAdd, Nat.reduceMul, Nat.reduceLeDiff, Nat.reduceSub, Nat.reduceLT, Int.reduceToNat, Int.reduceLT, Int.reduceLE, reduceCtorEq, Nat.zero_add, Nat.add_zero, and_self, and_true, true_and, ne_eq, not_false_eq_true, not_true_eq_false, decide_true, decide_false, Bool.false_eq_true, Bool.not_true, Bool.not_false, Bool.true_and, Bool.and_true, Bool.or_false, Bool.false_or, Bool.and_self]; done) | rfl) ?_
    try simp only [go_sem, Int.reduceTMod, Int.reduceTDiv, Int.reduceDiv, Int.reduceMod, Int.reduceAdd, Int.reduceSub, Int.reduceMul, Int.reduceNeg, Int.reducePow, Int.reduceEq, bne_iff_ne, Int.cast_ofNat_Int, ↓reduceIte, Nat.reduceEqDiff, Nat.reduceAdd, Nat.reduceMul, Nat.reduceLeDiff, Nat.reduceSub, Nat.reduceLT, Int.reduceToNat, Int.reduceLT, Int.reduceLE, reduceCtorEq, Nat.zero_add, Nat.add_zero, and_self, and_true, true_and, ne_eq, not_false_eq_true, not_true_eq_false, decide_true, decide_false, Bool.false_eq_true, Bool.not_true, Bool.not_false, Bool.true_and, Bool.and_true, Bool.or_false, Bool.false_or, Bool.and_self]
    refine Fn.mono (Mid (mid b c) (mid c d) hbc hcd _ _) ?_
    rintro _ _ _ rfl
    refine ⟨rfl, ?_⟩
    try simp only [r56_11, wi, w2, Int.reduceAdd, go_sem, Int.reduceTMod, Int.reduceTDiv, Int.reduceDiv, Int.reduceMod, Int.reduceAdd, Int.reduceSub, Int.reduceMul, Int.reduceNeg, Int.reducePow, Int.reduceEq, bne_iff_ne, Int.cast_ofNat_Int, ↓reduceIte, Nat.reduceEqDiff, Nat.reduceAdd, Nat.reduceMul, Nat.reduceLeDiff, Nat.reduceSub, Nat.reduceLT, Int.reduceToNat, Int.reduceLT, Int.reduceLE, reduceCtorEq, Nat.zero_add, Nat.add_zero, and_self, and_true, true_and, ne_eq, not_false_eq_true, not_true_eq_false, decide_true, decide_false, Bool.false_eq_true, Bool.not_true, Bool.not_false, Bool.true_and, Bool.and_true, Bool.or_false, Bool.false_or, Bool.and_self]
    refine hX _ _ ?_
    simp only [l56_0, r56_8, r56_12, wi, w2, Int.reduceAdd, go_sem, Int.reduceTMod, Int.reduceTDiv, Int.reduceDiv, Int.reduceMod, Int.reduceAdd, Int.reduceSub, Int.reduceMul, Int.reduceNeg, Int.reducePow, Int.reduceEq, bne_iff_ne, Int.cast_ofNat_Int, ↓reduceIte, Nat.reduceEqDiff, Nat.reduceAdd, Nat.reduceMul, Nat.reduceLeDiff, Nat.reduceSub, Nat.reduceLT, Int.reduceToNat, Int.reduceLT, Int.reduceLE, reduceCtorEq, Nat.zero_add, Nat.add_zero, and_self, and_true, true_and, ne_eq, not_false_eq_true, not_true_eq_false, decide_true, decide_false, Bool.false_eq_true, Bool.not_true, Bool.not_false, Bool.true_and, Bool.and_true, Bool.or_false, Bool.false_or, Bool.and_self]
    refine hX1 _ _ ?_
    simp only [l56_1, ← hL, r56_3, r56_4, r56_5, r56_6, r56_7, disOk, List.all_cons, List.all_nil, idOf, wi, w2, Int.reduceNeg, Int.reduceSub, Int.reduceAdd, go_sem, Int.reduceTMod, Int.reduceTDiv, Int.reduceDiv, Int.reduceMod, Int.reduceAdd, Int.reduceSub, Int.reduceMul, Int.reduceNeg, Int.reducePow, Int.reduceEq, bne_iff_ne, Int.cast_ofNat_Int, ↓reduceIte, Nat.reduceEqDiff, Nat.reduceAdd, Nat.reduceMul, Nat.reduceLeDiff, Nat.reduceSub, Nat.reduceLT, Int.reduceToNat, Int.reduceLT, Int.reduceLE, reduceCtorEq, Nat.zero_add, Nat.add_zero, and_self, and_true, true_and, ne_eq, not_false_eq_true, not_true_eq_false, decide_true, decide_false, Bool.false_eq_true, Bool.not_true, Bool.not_false, Bool.true_and, Bool.and_true, Bool.or_false, Bool.false_or, Bool.and_self]
    refine hX _ _ ?_
    simp only [l56_0, r56_8, r56_9, r56_10, wi, w2, Int.reduceAdd, Int.reduceSub, go_sem, Int.reduceTMod, Int.reduceTDiv, Int.reduceDiv, Int.reduceMod, Int.reduceAdd, Int.reduceSub, Int.reduceMul, Int.reduceNeg, Int.reducePow, Int.reduceEq, bne_iff_ne, Int.cast_ofNat_Int, ↓reduceIte, Nat.reduceEqDiff, Nat.reduceAdd, Nat.reduceMul, Nat.reduceLeDiff, Nat.reduceSub, Nat.reduceLT, Int.reduceToNat, Int.reduceLT, Int.reduceLE, reduceCtorEq, Nat.zero_add, Nat.add_zero, and_self, and_true, true_and, ne_eq, not_false_eq_true, not_true_eq_false, decide_true, decide_false, Bool.false_eq_true, Bool.not_true, Bool.not_false, Bool.true_and, Bool.and_true, Bool.or_false, Bool.false_or, Bool.and_self]
    refine R_callz (by first | (simp only [flats, Reg.flat, Cell.flat, List.all_cons, List.all_nil, Bool.and_self, go_sem, Int.reduceTMod, Int.reduceTDiv, Int.reduceDiv, Int.reduceMod, Int.reduceAdd, Int.reduceSub, Int.reduceMul, Int.reduceNeg, Int.reducePow, Int.reduceEq, bne_iff_ne, Int.cast_ofNat_Int, ↓reduceIte, Nat.reduceEqDiff, Nat.reduceAdd, Nat.reduceMul, Nat.reduceLeDiff, Nat.reduceSub, Nat.reduceLT, Int.reduceToNat, Int.reduceLT, Int.reduceLE, reduceCtorEq, Nat.zero_add, Nat.add_zero, and_self, and_true, true_and, ne_eq, not_false_eq_true, not_true_eq_false, decide_true, decide_false, Bool.false_eq_true, Bool.not_true, Bool.not_false, Bool.true_and, Bool.and_true, Bool.or_false, Bool.false_or, Bool.and_self]; done) | rfl) ?_
    try simp only [go_sem, Int.reduceTMod, Int.reduceTDiv, Int.reduceDiv, Int.reduceMod, Int.reduceAdd, Int.reduceSub, Int.reduceMul, Int.reduceNeg, Int.reducePow, Int.reduceEq, bne_iff_ne, Int.cast_ofNat_Int, ↓reduceIte, Nat.reduceEqDiff, Nat.reduceAdd, Nat.reduceMul, Nat.reduceLeDiff, Nat.reduceSub, Nat.reduceLT, Int.reduceToNat, Int.reduceLT, Int.reduceLE, reduceCtorEq, Nat.zero_add, Nat.add_zero, and_self, and_true, true_and, ne_eq, not_false_eq_true, not_true_eq_false, decide_true, decide_false, Bool.false_eq_true, Bool.not_true, Bool.not_false, Bool.true_and, Bool.and_true, Bool.or_false, Bool.false_or, Bool.and_self]
    refine Fn.mono (Mid (mid (mid a b) (mid b c)) (mid (mid b c) (mid c d)) habc hbcd _ _) ?_
    rintro _ _ _ rfl
    refine ⟨rfl, ?_⟩
    try simp only [r56_11, wi, w2, Int.reduceAdd, go_sem, Int.reduceTMod, Int.reduceTDiv, Int.reduceDiv, Int.reduceMod, Int.reduceAdd, Int.reduceSub, Int.reduceMul, Int.reduceNeg, Int.reducePow, Int.reduceEq, bne_iff_ne, Int.cast_ofNat_Int, ↓reduceIte, Nat.reduceEqDiff, Nat.reduceAdd, Nat.reduceMul, Nat.reduceLeDiff, Nat.reduceSub, Nat.reduceLT, Int.reduceToNat, Int.reduceLT, Int.reduceLE, reduceCtorEq, Nat.zero_add, Nat.add_zero, and_self, and_true, true_and, ne_eq, not_false_eq_true, not_true_eq_false, decide_true, decide_false, Bool.false_eq_true, Bool.not_true, Bool.not_false, Bool.true_and, Bool.and_true, Bool.or_false, Bool.false_or, Bool.and_self]
    refine hX _ _ ?_
    simp only [l56_0, r56_8, r56_12, wi, w2, Int.reduceAdd, go_sem, Int.reduceTMod, Int.reduceTDiv, Int.reduceDiv, Int.reduceMod, Int.reduceAdd, Int.reduceSub, Int.reduceMul, Int.reduceNeg, Int.reducePow, Int.reduceEq, bne_iff_ne, Int.cast_ofNat_Int, ↓reduceIte, Nat.reduceEqDiff, Nat.reduceAdd, Nat.reduceMul, Nat.reduceLeDiff, Nat.reduceSub, Nat.reduceLT, Int.reduceToNat, Int.reduceLT, Int.reduceLE, reduceCtorEq, Nat.zero_add, Nat.add_zero, and_self, and_true, true_and, ne_eq, not_false_eq_true, not_true_eq_false, decide_true, decide_false, Bool.false_eq_true, Bool.not_true, Bool.not_false, Bool.true_and, Bool.and_true, Bool.or_false, Bool.false_or, Bool.and_self]
    refine hX1 _ _ ?_
    simp only [l56_1, ← hL, r56_3, r56_4, r56_5, r56_6, r56_7, disOk, List.all_cons, List.all_nil, idOf, wi, w2, Int.reduceNeg, Int.reduceSub, Int.reduceAdd, go_sem, Int.reduceTMod, Int.reduceTDiv, Int.reduceDiv, Int.reduceMod, Int.reduceAdd, Int.reduceSub, Int.reduceMul, Int.reduceNeg, Int.reducePow, Int.reduceEq, bne_iff_ne, Int.cast_ofNat_Int, ↓reduceIte, Nat.reduceEqDiff, Nat.reduceAdd, Nat.reduceMul, Nat.reduceLeDiff, Nat.reduceSub, Nat.reduceLT, Int.reduceToNat, Int.reduceLT, Int.reduceLE, reduceCtorEq, Nat.zero_add, Nat.add_zero, and_self, and_true, true_and, ne_eq, not_false_eq_true, not_true_eq_false, decide_true, decide_false, Bool.false_eq_true, Bool.not_true, Bool.not_false, Bool.true_and, Bool.and_true, Bool.or_false, Bool.false_or, Bool.and_self]
    refine hX _ _ ?_
    simp only [l56_0, r56_8, r56_12, wi, w2, Int.reduceAdd, go_sem, Int.reduceTMod, Int.reduceTDiv, Int.reduceDiv, Int.reduceMod, Int.reduceAdd, Int.reduceSub, Int.reduceMul, Int.reduceNeg, Int.reducePow, Int.reduceEq, bne_iff_ne, Int.cast_ofNat_Int, ↓reduceIte, Nat.reduceEqDiff, Nat.reduceAdd, Nat.reduceMul, Nat.reduceLeDiff, Nat.reduceSub, Nat.reduceLT, Int.reduceToNat, Int.reduceLT, Int.reduceLE, reduceCtorEq, Nat.zero_add, Nat.add_zero, and_self, and_true, true_and, ne_eq, not_false_eq_true, not_true_eq_false, decide_true, decide_false, Bool.false_eq_true, Bool.not_true, Bool.not_false, Bool.true_and, Bool.and_true, Bool.or_false, Bool.false_or, Bool.and_self]
    refine hX1 _ _ ?_
    simp only [l56_1, r56_3, r56_13, disOk, List.all_cons, List.all_nil, idOf, Cv.fst, Cv.snd, Cv.row, go_sem, Int.reduceTMod, Int.reduceTDiv, Int.reduceDiv, Int.reduceMod, Int.reduceAdd, Int.reduceSub, Int.reduceMul, Int.reduceNeg, Int.reducePow, Int.reduceEq, bne_iff_ne, Int.cast_ofNat_Int, ↓reduceIte, Nat.reduceEqDiff, Nat.reduceAdd, Nat.reduceMul, Nat.reduceLeDiff, Nat.reduceSub, Nat.reduceLT, Int.reduceToNat, Int.reduceLT, Int.reduceLE, reduceCtorEq, Nat.zero_add, Nat.add_zero, and_self, and_true, true_and, ne_eq, not_false_eq_true, not_true_eq_false, decide_true, decide_false, Bool.false_eq_true, Bool.not_true, Bool.not_false, Bool.true_and, Bool.and_true, Bool.or_false, Bool.false_or, Bool.and_self]

theorem halves61 (v : Cv) (hv : v.inP = true) (m : Mem) (n : Nat) : Fn TA 56 [.agg v.row] m n (fun r _ _ => r = .tup [.agg v.fst.row, .agg v.snd.row]) := by
  cases v with
  | quad a b c => exact halves61q a b c hv m n
  | cub a b c d => exact halves61c a b c d hv m n
end Go.Proofs.YtpleidpbapgmiaaDoor.Sy.Cu

/- Curves: the check of a list. Conditions: those that each theorem names. -/
namespace Go.Proofs.YtpleidpbapgmiaaDoor.Sy.Cu
open Go Go.Proofs
set_option linter.unusedSimpArgs false
set_option linter.unusedVariables false
attribute [local go_sem] R_nil R_mv R_pick R_alloc R_box R_build R_bslice R_load1 R_loadA R_store R_nilchk R_bin R_beq R_eqv R_eqnil R_un R_conv R_mkfn R_mkslice R_slS R_slA R_fadr R_fld R_iadrA R_iadrS R_idxA R_ext R_len R_lenC R_cap R_app R_appz R_pre R_cpy R_mn R_mx
  noId Bool.false_or evalOp evO evOs upd_upd upd_at unfrz_at putE_some putE_none Then_some X_seq X_reg X_dreg X_ureg X_ret X_skip X_exit X_block X_condK condK_bool Next_n Next_x Next_r Out_n Out_x Out_r Ret_n Ret_r
  bin_shr1 bin_add bin_sub bin_mul bin_lss bin_leq bin_gtr bin_geq bin_eql bin_neq un_not un_neg boolOf_b boolOf_tup R_guard Option.map_some evRes pack_one pack_two pack_three pack_none List.getD_cons_zero List.getD_cons_succ getD_nil
  Option.some.injEq exists_eq_left' Reg.cs? fillC setL List.set_cons_zero List.set_cons_succ List.length_cons List.length_nil rd_upd rdB wr List.drop_zero List.drop_succ_cons List.take_succ_cons List.take_zero List.getElem?_cons_zero List.getElem?_cons_succ
  ix Int.toNat_zero lenO_sl lenO_nil sn1 ns1 sn2 ns2 sn3 ns3 sn4 ns4 sn5 ns5 sn6 ns6 sn7 ns7 sn8 ns8 sn9 ns9 sn10 ns10 sn11 ns11 sn12 ns12 sk1_2 sk1_3 sk1_4 sk1_5 sk1_6 sk1_7 sk1_8 sk2_1 sk2_3 sk2_4 sk2_5 sk2_6 sk2_7 sk2_8 sk3_1 sk3_2 sk3_4 sk3_5 sk3_6 sk3_7 sk3_8 sk4_1 sk4_2 sk4_3 sk4_5 sk4_6 sk4_7 sk4_8 sk5_1 sk5_2 sk5_3 sk5_4 sk5_6 sk5_7 sk5_8 sk6_1 sk6_2 sk6_3 sk6_4 sk6_5 sk6_7 sk6_8 sk7_1 sk7_2 sk7_3 sk7_4 sk7_5 sk7_6 sk7_8 sk8_1 sk8_2 sk8_3 sk8_4 sk8_5 sk8_6 sk8_7

theorem Index68 (r : Reg) (l : List Pt) (m : Mem) (n : Nat) (hr : RP m n r l) (hl : l.length < 4294967296) : Fn TA 57 [r, .one (.clo 62 [])] m n (fun r' _ _ => ∃ k : Int, r' = RI k ∧ (l.all inP = true → k = -1) ∧ (l.all inP = false → 0 ≤ k)) := by
  refine Fn_of (fn := F57) rfl (by simp [F57]) ?_
  obtain ⟨L, hL⟩ : ∃ L_, L_ = SC.loop l57_0 := ⟨_, rfl⟩
  have hX : ∀ s Q, X TA l57_0 s (Next Q (fun s_ => X TA L s_ Q)) → X TA L s Q := by subst hL; exact fun _ _ h => X_loop h
  have key : ∀ (k i : Nat) (s : St), i + k = l.length → s.e 0 = r → s.e 1 = .one (.clo 62 []) → s.e 6 = r → s.e 7 = RI l.length → s.e 8 = RI i → RP s.m s.n r l → (l.take i).all inP = true →
      X TA L s (fun e s' => (e = .x 0 ∧ l.all inP = true) ∨ (e = .r ∧ (∃ j : Nat, s'.e 4 = RI j) ∧ l.all inP = false)) := by
    intro k
    induction k with
    | zero =>
      intro i s hi h0 h1 h6 h7 h8 hm ha
      refine hX _ _ ?_
      have hlt : ¬ ((i : Int) < (l.length : Int)) := by omega
      simp only [l57_0, r57_2, h8, h7, hlt, go_sem, Int.reduceTMod, Int.reduceTDiv, Int.reduceDiv, Int.reduceMod, Int.reduceAdd, Int.reduceSub, Int.reduceMul, Int.reduceNeg, Int.reducePow, Int.reduceEq, bne_iff_ne, Int.cast_ofNat_Int, ↓reduceIte, Nat.reduceEqDiff, Nat.reduceAdd, Nat.reduceMul, Nat.reduceLeDiff, Nat.reduceSub, Nat.reduceLT, Int.reduceToNat, Int.reduceLT, Int.reduceLE, reduceCtorEq, Nat.zero_add, Nat.add_zero, and_self, and_true, true_and, ne_eq, not_false_eq_true, not_true_eq_false, decide_true, decide_false, Bool.false_eq_true, Bool.not_true, Bool.not_false, Bool.true_and, Bool.and_true, Bool.or_false, Bool.false_or, Bool.and_self]
      rw [List.take_of_length_le (by omega)] at ha
      exact Or.inl ha
    | succ k ih =>
      intro i s hi h0 h1 h6 h7 h8 hm ha
      refine hX _ _ ?_
      have hil : i < l.length := by omega
      have hlt : ((i : Int) < (l.length : Int)) := by omega
      have h00 : (0 : Int) ≤ (i : Int) := by omega
      obtain ⟨id, off, cap, rfl, hid, hrd⟩ := hm.sl hil
      simp only [l57_0, r57_2, r57_3, r57_4, h8, h7, h6, h0, h1, hlt, h00, Int.toNat_natCast, hrd, go_sem, Int.reduceTMod, Int.reduceTDiv, Int.reduceDiv, Int.reduceMod, Int.reduceAdd, Int.reduceSub, Int.reduceMul, Int.reduceNeg, Int.reducePow, Int.reduceEq, bne_iff_ne, Int.cast_ofNat_Int, ↓reduceIte, Nat.reduceEqDiff, Nat.reduceAdd, Nat.reduceMul, Nat.reduceLeDiff, Nat.reduceSub, Nat.reduceLT, Int.reduceToNat, Int.reduceLT, Int.reduceLE, reduceCtorEq, Nat.zero_add, Nat.add_zero, and_self, and_true, true_and, ne_eq, not_false_eq_true, not_true_eq_false, decide_true, decide_false, Bool.false_eq_true, Bool.not_true, Bool.not_false, Bool.true_and, Bool.and_true, Bool.or_false, Bool.false_or, Bool.and_self]
      refine R_callv (f := 62) (caps := []) (by simp only [h1, go_sem, Int.reduceTMod, Int.reduceTDiv, Int.reduceDiv, Int.reduceMod, Int.reduceAdd, Int.reduceSub, Int.reduceMul, Int.reduceNeg, Int.reducePow, Int.reduceEq, bne_iff_ne, Int.cast_ofNat_Int, ↓reduceIte, Nat.reduceEqDiff, Nat.reduceAdd, Nat.reduceMul, Nat.reduceLeDiff, Nat.reduceSub, Nat.reduceLT, Int.reduceToNat, Int.reduceLT, Int.reduceLE, reduceCtorEq, Nat.zero_add, Nat.add_zero, and_self, and_true, true_and, ne_eq, not_false_eq_true, not_true_eq_false, decide_true, decide_false, Bool.false_eq_true, Bool.not_true, Bool.not_false, Bool.true_and, Bool.and_true, Bool.or_false, Bool.false_or, Bool.and_self]) ?_
      refine R_callq ?_
      simp only [List.map_nil, List.append_nil, List.map_cons, go_sem, Int.reduceTMod, Int.reduceTDiv, Int.reduceDiv, Int.reduceMod, Int.reduceAdd, Int.reduceSub, Int.reduceMul, Int.reduceNeg, Int.reducePow, Int.reduceEq, bne_iff_ne, Int.cast_ofNat_Int, ↓reduceIte, Nat.reduceEqDiff, Nat.reduceAdd, Nat.reduceMul, Nat.reduceLeDiff, Nat.reduceSub, Nat.reduceLT, Int.reduceToNat, Int.reduceLT, Int.reduceLE, reduceCtorEq, Nat.zero_add, Nat.add_zero, and_self, and_true, true_and, ne_eq, not_false_eq_true, not_true_eq_false, decide_true, decide_false, Bool.false_eq_true, Bool.not_true, Bool.not_false, Bool.true_and, Bool.and_true, Bool.or_false, Bool.false_or, Bool.and_self]
      refine (f67 l[i] _ _).mono ?_
      rintro _ _ _ rfl
      refine ⟨rfl, ?_⟩
      cases hx : inP l[i]
      · simp only [r57_5, go_sem, Int.reduceTMod, Int.reduceTDiv, Int.reduceDiv, Int.reduceMod, Int.reduceAdd, Int.reduceSub, Int.reduceMul, Int.reduceNeg, Int.reducePow, Int.reduceEq, bne_iff_ne, Int.cast_ofNat_Int, ↓reduceIte, Nat.reduceEqDiff, Nat.reduceAdd, Nat.reduceMul, Nat.reduceLeDiff, Nat.reduceSub, Nat.reduceLT, Int.reduceToNat, Int.reduceLT, Int.reduceLE, reduceCtorEq, Nat.zero_add, Nat.add_zero, and_self, and_true, true_and, ne_eq, not_false_eq_true, not_true_eq_false, decide_true, decide_false, Bool.false_eq_true, Bool.not_true, Bool.not_false, Bool.true_and, Bool.and_true, Bool.or_false, Bool.false_or, Bool.and_self]
        exact Or.inr ⟨⟨i, rfl⟩, all_false_of hil hx⟩
      · simp only [r57_6, h8, go_sem, Int.reduceTMod, Int.reduceTDiv, Int.reduceDiv, Int.reduceMod, Int.reduceAdd, Int.reduceSub, Int.reduceMul, Int.reduceNeg, Int.reducePow, Int.reduceEq, bne_iff_ne, Int.cast_ofNat_Int, ↓reduceIte, Nat.reduceEqDiff, Nat.reduceAdd, Nat.reduceMul, Nat.reduceLeDiff, Nat.reduceSub, Nat.reduceLT, Int.reduceToNat, Int.reduceLT, Int.reduceLE, reduceCtorEq, Nat.zero_add, Nat.add_zero, and_self, and_true, true_and, ne_eq, not_false_eq_true, not_true_eq_false, decide_true, decide_false, Bool.false_eq_true, Bool.not_true, Bool.not_false, Bool.true_and, Bool.and_true, Bool.or_false, Bool.false_or, Bool.and_self]
        refine ih (i + 1) _ (by omega) ?_ ?_ ?_ ?_ ?_ hm ?_
        · simp only [h0, go_sem, Int.reduceTMod, Int.reduceTDiv, Int.reduceDiv, Int.reduceMod, Int.reduceAdd, Int.reduceSub, Int.reduceMul, Int.reduceNeg, Int.reducePow, Int.reduceEq, bne_iff_ne, Int.cast_ofNat_Int, ↓reduceIte, Nat.reduceEqDiff, Nat.reduceAdd, Nat.reduceMul, Nat.reduceLeDiff, Nat.reduceSub, Nat.reduceLT, Int.reduceToNat, Int.reduceLT, Int.reduceLE, reduceCtorEq, Nat.zero_add, Nat.add_zero, and_self, and_true, true_and, ne_eq, not_false_eq_true, not_true_eq_false, decide_true, decide_false, Bool.false_eq_true, Bool.not_true, Bool.not_false, Bool.true_and, Bool.and_true, Bool.or_false, Bool.false_or, Bool.and_self]
        · simp only [h1, go_sem, Int.reduceTMod, Int.reduceTDiv, Int.reduceDiv, Int.reduceMod, Int.reduceAdd, Int.reduceSub, Int.reduceMul, Int.reduceNeg, Int.reducePow, Int.reduceEq, bne_iff_ne, Int.cast_ofNat_Int, ↓reduceIte, Nat.reduceEqDiff, Nat.reduceAdd, Nat.reduceMul, Nat.reduceLeDiff, Nat.reduceSub, Nat.reduceLT, Int.reduceToNat, Int.reduceLT, Int.reduceLE, reduceCtorEq, Nat.zero_add, Nat.add_zero, and_self, and_true, true_and, ne_eq, not_false_eq_true, not_true_eq_false, decide_true, decide_false, Bool.false_eq_true, Bool.not_true, Bool.not_false, Bool.true_and, Bool.and_true, Bool.or_false, Bool.false_or, Bool.and_self]
        · simp only [h6, go_sem, Int.reduceTMod, Int.reduceTDiv, Int.reduceDiv, Int.reduceMod, Int.reduceAdd, Int.reduceSub, Int.reduceMul, Int.reduceNeg, Int.reducePow, Int.reduceEq, bne_iff_ne, Int.cast_ofNat_Int, ↓reduceIte, Nat.reduceEqDiff, Nat.reduceAdd, Nat.reduceMul, Nat.reduceLeDiff, Nat.reduceSub, Nat.reduceLT, Int.reduceToNat, Int.reduceLT, Int.reduceLE, reduceCtorEq, Nat.zero_add, Nat.add_zero, and_self, and_true, true_and, ne_eq, not_false_eq_true, not_true_eq_false, decide_true, decide_false, Bool.false_eq_true, Bool.not_true, Bool.not_false, Bool.true_and, Bool.and_true, Bool.or_false, Bool.false_or, Bool.and_self]
        · simp only [h7, go_sem, Int.reduceTMod, Int.reduceTDiv, Int.reduceDiv, Int.reduceMod, Int.reduceAdd, Int.reduceSub, Int.reduceMul, Int.reduceNeg, Int.reducePow, Int.reduceEq, bne_iff_ne, Int.cast_ofNat_Int, ↓reduceIte, Nat.reduceEqDiff, Nat.reduceAdd, Nat.reduceMul, Nat.reduceLeDiff, Nat.reduceSub, Nat.reduceLT, Int.reduceToNat, Int.reduceLT, Int.reduceLE, reduceCtorEq, Nat.zero_add, Nat.add_zero, and_self, and_true, true_and, ne_eq, not_false_eq_true, not_true_eq_false, decide_true, decide_false, Bool.false_eq_true, Bool.not_true, Bool.not_false, Bool.true_and, Bool.and_true, Bool.or_false, Bool.false_or, Bool.and_self]
        · simp only [wr_nat (show i < 4294967296 by omega), go_sem, Int.reduceTMod, Int.reduceTDiv, Int.reduceDiv, Int.reduceMod, Int.reduceAdd, Int.reduceSub, Int.reduceMul, Int.reduceNeg, Int.reducePow, Int.reduceEq, bne_iff_ne, Int.cast_ofNat_Int, ↓reduceIte, Nat.reduceEqDiff, Nat.reduceAdd, Nat.reduceMul, Nat.reduceLeDiff, Nat.reduceSub, Nat.reduceLT, Int.reduceToNat, Int.reduceLT, Int.reduceLE, reduceCtorEq, Nat.zero_add, Nat.add_zero, and_self, and_true, true_and, ne_eq, not_false_eq_true, not_true_eq_false, decide_true, decide_false, Bool.false_eq_true, Bool.not_true, Bool.not_false, Bool.true_and, Bool.and_true, Bool.or_false, Bool.false_or, Bool.and_self]
        · rw [take_succ_all hil, ha, hx]; rfl
  simp only [F57, c57, r57_0, r57_1, hr.len, ← hL, go_sem, Int.reduceTMod, Int.reduceTDiv, Int.reduceDiv, Int.reduceMod, Int.reduceAdd, Int.reduceSub, Int.reduceMul, Int.reduceNeg, Int.reducePow, Int.reduceEq, bne_iff_ne, Int.cast_ofNat_Int, ↓reduceIte, Nat.reduceEqDiff, Nat.reduceAdd, Nat.reduceMul, Nat.reduceLeDiff, Nat.reduceSub, Nat.reduceLT, Int.reduceToNat, Int.reduceLT, Int.reduceLE, reduceCtorEq, Nat.zero_add, Nat.add_zero, and_self, and_true, true_and, ne_eq, not_false_eq_true, not_true_eq_false, decide_true, decide_false, Bool.false_eq_true, Bool.not_true, Bool.not_false, Bool.true_and, Bool.and_true, Bool.or_false, Bool.false_or, Bool.and_self]
  refine (key l.length 0 _ (by omega) ?_ ?_ ?_ ?_ ?_ hr rfl).mono fun e s' h => ?_
  · simp only [go_sem, Int.reduceTMod, Int.reduceTDiv, Int.reduceDiv, Int.reduceMod, Int.reduceAdd, Int.reduceSub, Int.reduceMul, Int.reduceNeg, Int.reducePow, Int.reduceEq, bne_iff_ne, Int.cast_ofNat_Int, ↓reduceIte, Nat.reduceEqDiff, Nat.reduceAdd, Nat.reduceMul, Nat.reduceLeDiff, Nat.reduceSub, Nat.reduceLT, Int.reduceToNat, Int.reduceLT, Int.reduceLE, reduceCtorEq, Nat.zero_add, Nat.add_zero, and_self, and_true, true_and, ne_eq, not_false_eq_true, not_true_eq_false, decide_true, decide_false, Bool.false_eq_true, Bool.not_true, Bool.not_false, Bool.true_and, Bool.and_true, Bool.or_false, Bool.false_or, Bool.and_self]
  · simp only [go_sem, Int.reduceTMod, Int.reduceTDiv, Int.reduceDiv, Int.reduceMod, Int.reduceAdd, Int.reduceSub, Int.reduceMul, Int.reduceNeg, Int.reducePow, Int.reduceEq, bne_iff_ne, Int.cast_ofNat_Int, ↓reduceIte, Nat.reduceEqDiff, Nat.reduceAdd, Nat.reduceMul, Nat.reduceLeDiff, Nat.reduceSub, Nat.reduceLT, Int.reduceToNat, Int.reduceLT, Int.reduceLE, reduceCtorEq, Nat.zero_add, Nat.add_zero, and_self, and_true, true_and, ne_eq, not_false_eq_true, not_true_eq_false, decide_true, decide_false, Bool.false_eq_true, Bool.not_true, Bool.not_false, Bool.true_and, Bool.and_true, Bool.or_false, Bool.false_or, Bool.and_self]
  · simp only [go_sem, Int.reduceTMod, Int.reduceTDiv, Int.reduceDiv, Int.reduceMod, Int.reduceAdd, Int.reduceSub, Int.reduceMul, Int.reduceNeg, Int.reducePow, Int.reduceEq, bne_iff_ne, Int.cast_ofNat_Int, ↓reduceIte, Nat.reduceEqDiff, Nat.reduceAdd, Nat.reduceMul, Nat.reduceLeDiff, Nat.reduceSub, Nat.reduceLT, Int.reduceToNat, Int.reduceLT, Int.reduceLE, reduceCtorEq, Nat.zero_add, Nat.add_zero, and_self, and_true, true_and, ne_eq, not_false_eq_true, not_true_eq_false, decide_true, decide_false, Bool.false_eq_true, Bool.not_true, Bool.not_false, Bool.true_and, Bool.and_true, Bool.or_false, Bool.false_or, Bool.and_self]
  · simp only [go_sem, Int.reduceTMod, Int.reduceTDiv, Int.reduceDiv, Int.reduceMod, Int.reduceAdd, Int.reduceSub, Int.reduceMul, Int.reduceNeg, Int.reducePow, Int.reduceEq, bne_iff_ne, Int.cast_ofNat_Int, ↓reduceIte, Nat.reduceEqDiff, Nat.reduceAdd, Nat.reduceMul, Nat.reduceLeDiff, Nat.reduceSub, Nat.reduceLT, Int.reduceToNat, Int.reduceLT, Int.reduceLE, reduceCtorEq, Nat.zero_add, Nat.add_zero, and_self, and_true, true_and, ne_eq, not_false_eq_true, not_true_eq_false, decide_true, decide_false, Bool.false_eq_true, Bool.not_true, Bool.not_false, Bool.true_and, Bool.and_true, Bool.or_false, Bool.false_or, Bool.and_self]
  · simp only [go_sem, Int.reduceTMod, Int.reduceTDiv, Int.reduceDiv, Int.reduceMod, Int.reduceAdd, Int.reduceSub, Int.reduceMul, Int.reduceNeg, Int.reducePow, Int.reduceEq, bne_iff_ne, Int.cast_ofNat_Int, ↓reduceIte, Nat.reduceEqDiff, Nat.reduceAdd, Nat.reduceMul, Nat.reduceLeDiff, Nat.reduceSub, Nat.reduceLT, Int.reduceToNat, Int.reduceLT, Int.reduceLE, reduceCtorEq, Nat.zero_add, Nat.add_zero, and_self, and_true, true_and, ne_eq, not_false_eq_true, not_true_eq_false, decide_true, decide_false, Bool.false_eq_true, Bool.not_true, Bool.not_false, Bool.true_and, Bool.and_true, Bool.or_false, Bool.false_or, Bool.and_self]
  rcases h with ⟨rfl, ha⟩ | ⟨rfl, ⟨j, h4⟩, ha⟩
  · simp only [r57_7, go_sem, Int.reduceTMod, Int.reduceTDiv, Int.reduceDiv, Int.reduceMod, Int.reduceAdd, Int.reduceSub, Int.reduceMul, Int.reduceNeg, Int.reducePow, Int.reduceEq, bne_iff_ne, Int.cast_ofNat_Int, ↓reduceIte, Nat.reduceEqDiff, Nat.reduceAdd, Nat.reduceMul, Nat.reduceLeDiff, Nat.reduceSub, Nat.reduceLT, Int.reduceToNat, Int.reduceLT, Int.reduceLE, reduceCtorEq, Nat.zero_add, Nat.add_zero, and_self, and_true, true_and, ne_eq, not_false_eq_true, not_true_eq_false, decide_true, decide_false, Bool.false_eq_true, Bool.not_true, Bool.not_false, Bool.true_and, Bool.and_true, Bool.or_false, Bool.false_or, Bool.and_self]
    exact ⟨-1, rfl, fun _ => rfl, fun h => (by rw [ha] at h; cases h)⟩
  · simp only [h4, go_sem, Int.reduceTMod, Int.reduceTDiv, Int.reduceDiv, Int.reduceMod, Int.reduceAdd, Int.reduceSub, Int.reduceMul, Int.reduceNeg, Int.reducePow, Int.reduceEq, bne_iff_ne, Int.cast_ofNat_Int, ↓reduceIte, Nat.reduceEqDiff, Nat.reduceAdd, Nat.reduceMul, Nat.reduceLeDiff, Nat.reduceSub, Nat.reduceLT, Int.reduceToNat, Int.reduceLT, Int.reduceLE, reduceCtorEq, Nat.zero_add, Nat.add_zero, and_self, and_true, true_and, ne_eq, not_false_eq_true, not_true_eq_false, decide_true, decide_false, Bool.false_eq_true, Bool.not_true, Bool.not_false, Bool.true_and, Bool.and_true, Bool.or_false, Bool.false_or, Bool.and_self]
    exact ⟨j, rfl, fun h => (by rw [ha] at h; cases h), fun _ => by omega⟩

theorem Contains66 (r : Reg) (l : List Pt) (m : Mem) (n : Nat) (hr : RP m n r l) (hl : l.length < 4294967296) : Fn TA 38 [r, .one (.clo 62 [])] m n (fun r' _ _ => r' = RB (!l.all inP)) := by
  refine Fn_of (fn := F38) rfl (by simp [F38]) ?_
  simp only [F38, c38, r38_0, r38_1, go_sem, Int.reduceTMod, Int.reduceTDiv, Int.reduceDiv, Int.reduceMod, Int.reduceAdd, Int.reduceSub, Int.reduceMul, Int.reduceNeg, Int.reducePow, Int.reduceEq, bne_iff_ne, Int.cast_ofNat_Int, ↓reduceIte, Nat.reduceEqDiff, Nat.reduceAdd, Nat.reduceMul, Nat.reduceLeDiff, Nat.reduceSub, Nat.reduceLT, Int.reduceToNat, Int.reduceLT, Int.reduceLE, reduceCtorEq, Nat.zero_add, Nat.add_zero, and_self, and_true, true_and, ne_eq, not_false_eq_true, not_true_eq_false, decide_true, decide_false, Bool.false_eq_true, Bool.not_true, Bool.not_false, Bool.true_and, Bool.and_true, Bool.or_false, Bool.false_or, Bool.and_self]
  refine R_callq ?_
  simp only [go_sem, Int.reduceTMod, Int.reduceTDiv, Int.reduceDiv, Int.reduceMod, Int.reduceAdd, Int.reduceSub, Int.reduceMul, Int.reduceNeg, Int.reducePow, Int.reduceEq, bne_iff_ne, Int.cast_ofNat_Int, ↓reduceIte, Nat.reduceEqDiff, Nat.reduceAdd, Nat.reduceMul, Nat.reduceLeDiff, Nat.reduceSub, Nat.reduceLT, Int.reduceToNat, Int.reduceLT, Int.reduceLE, reduceCtorEq, Nat.zero_add, Nat.add_zero, and_self, and_true, true_and, ne_eq, not_false_eq_true, not_true_eq_false, decide_true, decide_false, Bool.false_eq_true, Bool.not_true, Bool.not_false, Bool.true_and, Bool.and_true, Bool.or_false, Bool.false_or, Bool.and_self]
  refine (Index68 r l _ _ hr.frz hl).mono ?_
  rintro _ _ _ ⟨k, rfl, h1, h2⟩
  refine ⟨rfl, ?_⟩
  cases ha : l.all inP with
  | true =>
    rw [h1 ha]
    simp only [Int.reduceNeg, go_sem, Int.reduceTMod, Int.reduceTDiv, Int.reduceDiv, Int.reduceMod, Int.reduceAdd, Int.reduceSub, Int.reduceMul, Int.reduceNeg, Int.reducePow, Int.reduceEq, bne_iff_ne, Int.cast_ofNat_Int, ↓reduceIte, Nat.reduceEqDiff, Nat.reduceAdd, Nat.reduceMul, Nat.reduceLeDiff, Nat.reduceSub, Nat.reduceLT, Int.reduceToNat, Int.reduceLT, Int.reduceLE, reduceCtorEq, Nat.zero_add, Nat.add_zero, and_self, and_true, true_and, ne_eq, not_false_eq_true, not_true_eq_false, decide_true, decide_false, Bool.false_eq_true, Bool.not_true, Bool.not_false, Bool.true_and, Bool.and_true, Bool.or_false, Bool.false_or, Bool.and_self]
  | false =>
    have := h2 ha
    simp only [this, go_sem, Int.reduceTMod, Int.reduceTDiv, Int.reduceDiv, Int.reduceMod, Int.reduceAdd, Int.reduceSub, Int.reduceMul, Int.reduceNeg, Int.reducePow, Int.reduceEq, bne_iff_ne, Int.cast_ofNat_Int, ↓reduceIte, Nat.reduceEqDiff, Nat.reduceAdd, Nat.reduceMul, Nat.reduceLeDiff, Nat.reduceSub, Nat.reduceLT, Int.reduceToNat, Int.reduceLT, Int.reduceLE, reduceCtorEq, Nat.zero_add, Nat.add_zero, and_self, and_true, true_and, ne_eq, not_false_eq_true, not_true_eq_false, decide_true, decide_false, Bool.false_eq_true, Bool.not_true, Bool.not_false, Bool.true_and, Bool.and_true, Bool.or_false, Bool.false_or, Bool.and_self]

theorem check59 (r : Reg) (l : List Pt) (m : Mem) (n : Nat) (hr : RP m n r l) (hl : l.length < 4294967296) : Fn TA 54 [r] m n (fun r' _ _ => r' = RI (if l.all inP = true ∧ (l.length = 3 ∨ l.length = 4) then 0 else 30)) := by
  refine Fn_of (fn := F54) rfl (by simp [F54]) ?_
  by_cases h3 : (l.length : Int) < 3
  · have hno : ¬ (l.all inP = true ∧ (l.length = 3 ∨ l.length = 4)) := by omega
    rw [if_neg hno]
    simp only [F54, c54, r54_0, r54_1, hr.len, h3, r54_2, go_sem, Int.reduceTMod, Int.reduceTDiv, Int.reduceDiv, Int.reduceMod, Int.reduceAdd, Int.reduceSub, Int.reduceMul, Int.reduceNeg, Int.reducePow, Int.reduceEq, bne_iff_ne, Int.cast_ofNat_Int, ↓reduceIte, Nat.reduceEqDiff, Nat.reduceAdd, Nat.reduceMul, Nat.reduceLeDiff, Nat.reduceSub, Nat.reduceLT, Int.reduceToNat, Int.reduceLT, Int.reduceLE, reduceCtorEq, Nat.zero_add, Nat.add_zero, and_self, and_true, true_and, ne_eq, not_false_eq_true, not_true_eq_false, decide_true, decide_false, Bool.false_eq_true, Bool.not_true, Bool.not_false, Bool.true_and, Bool.and_true, Bool.or_false, Bool.false_or, Bool.and_self]
  · by_cases h4 : (4 : Int) < (l.length : Int)
    · have hno : ¬ (l.all inP = true ∧ (l.length = 3 ∨ l.length = 4)) := by omega
      rw [if_neg hno]
      simp only [F54, c54, r54_0, r54_1, hr.len, h3, h4, r54_2, go_sem, Int.reduceTMod, Int.reduceTDiv, Int.reduceDiv, Int.reduceMod, Int.reduceAdd, Int.reduceSub, Int.reduceMul, Int.reduceNeg, Int.reducePow, Int.reduceEq, bne_iff_ne, Int.cast_ofNat_Int, ↓reduceIte, Nat.reduceEqDiff, Nat.reduceAdd, Nat.reduceMul, Nat.reduceLeDiff, Nat.reduceSub, Nat.reduceLT, Int.reduceToNat, Int.reduceLT, Int.reduceLE, reduceCtorEq, Nat.zero_add, Nat.add_zero, and_self, and_true, true_and, ne_eq, not_false_eq_true, not_true_eq_false, decide_true, decide_false, Bool.false_eq_true, Bool.not_true, Bool.not_false, Bool.true_and, Bool.and_true, Bool.or_false, Bool.false_or, Bool.and_self]
    · simp only [F54, c54, r54_0, r54_1, hr.len, h3, h4, go_sem, Int.reduceTMod, Int.reduceTDiv, Int.reduceDiv, Int.reduceMod, Int.reduceAdd, Int.reduceSub, Int.reduceMul, Int.reduceNeg, Int.reducePow, Int.reduceEq, bne_iff_ne, Int.cast_ofNat_Int, ↓reduceIte, Nat.reduceEqDiff, Nat.reduceAdd, Nat.reduceMul, Nat.reduceLeDiff, Nat.reduceSub, Nat.reduceLT, Int.reduceToNat, Int.reduceLT, Int.reduceLE, reduceCtorEq, Nat.zero_add, Nat.add_zero, and_self, and_true, true_and, ne_eq, not_false_eq_true, not_true_eq_false, decide_true, decide_false, Bool.false_eq_true, Bool.not_true, Bool.not_false, Bool.true_and, Bool.and_true, Bool.or_false, Bool.false_or, Bool.and_self]
      refine R_callq ?_
      simp only [go_sem, Int.reduceTMod, Int.reduceTDiv, Int.reduceDiv, Int.reduceMod, Int.reduceAdd, Int.reduceSub, Int.reduceMul, Int.reduceNeg, Int.reducePow, Int.reduceEq, bne_iff_ne, Int.cast_ofNat_Int, ↓reduceIte, Nat.reduceEqDiff, Nat.reduceAdd, Nat.reduceMul, Nat.reduceLeDiff, Nat.reduceSub, Nat.reduceLT, Int.reduceToNat, Int.reduceLT, Int.reduceLE, reduceCtorEq, Nat.zero_add, Nat.add_zero, and_self, and_true, true_and, ne_eq, not_false_eq_true, not_true_eq_false, decide_true, decide_false, Bool.false_eq_true, Bool.not_true, Bool.not_false, Bool.true_and, Bool.and_true, Bool.or_false, Bool.false_or, Bool.and_self]
      refine (Contains66 r l _ _ hr.frz hl).mono ?_
      rintro _ _ _ rfl
      refine ⟨rfl, ?_⟩
      cases ha : l.all inP with
      | true =>
        have hlen : (l.length = 3 ∨ l.length = 4) := by omega
        simp only [r54_3, hlen, go_sem, Int.reduceTMod, Int.reduceTDiv, Int.reduceDiv, Int.reduceMod, Int.reduceAdd, Int.reduceSub, Int.reduceMul, Int.reduceNeg, Int.reducePow, Int.reduceEq, bne_iff_ne, Int.cast_ofNat_Int, ↓reduceIte, Nat.reduceEqDiff, Nat.reduceAdd, Nat.reduceMul, Nat.reduceLeDiff, Nat.reduceSub, Nat.reduceLT, Int.reduceToNat, Int.reduceLT, Int.reduceLE, reduceCtorEq, Nat.zero_add, Nat.add_zero, and_self, and_true, true_and, ne_eq, not_false_eq_true, not_true_eq_false, decide_true, decide_false, Bool.false_eq_true, Bool.not_true, Bool.not_false, Bool.true_and, Bool.and_true, Bool.or_false, Bool.false_or, Bool.and_self]
      | false => simp only [r54_2, false_and, go_sem, Int.reduceTMod, Int.reduceTDiv, Int.reduceDiv, Int.reduceMod, Int.reduceAdd, Int.reduceSub, Int.reduceMul, Int.reduceNeg, Int.reducePow, Int.reduceEq, bne_iff_ne, Int.cast_ofNat_Int, ↓reduceIte, Nat.reduceEqDiff, Nat.reduceAdd, Nat.reduceMul, Nat.reduceLeDiff, Nat.reduceSub, Nat.reduceLT, Int.reduceToNat, Int.reduceLT, Int.reduceLE, reduceCtorEq, Nat.zero_add, Nat.add_zero, and_self, and_true, true_and, ne_eq, not_false_eq_true, not_true_eq_false, decide_true, decide_false, Bool.false_eq_true, Bool.not_true, Bool.not_false, Bool.true_and, Bool.and_true, Bool.or_false, Bool.false_or, Bool.and_self]

def Cv.pts : Cv → List Pt
  | .quad a b c => [a, b, c]
  | .cub a b c d => [a, b, c, d]

theorem nmin34 : Nat.min 3 4 = 3 := rfl
theorem nmin44 : Nat.min 4 4 = 4 := rfl

theorem rowOf60 (v : Cv) (r : Reg) (m : Mem) (n : Nat) (hr : RP m n r v.pts) : Fn TA 55 [r] m n (fun r' _ _ => r' = .agg v.row) := by
  refine Fn_of (fn := F55) rfl (by simp [F55]) ?_
  cases v with
  | quad a b c =>
    rcases hr with ⟨_, h, _⟩ | ⟨id, off, cap, rfl, hid, h3⟩
    · cases h
    simp only [encP, Cv.pts, List.flatMap_cons, List.flatMap_nil, List.cons_append, List.nil_append, List.append_nil, List.length_cons, List.length_nil, Nat.zero_add, Nat.reduceAdd, Nat.reduceMul] at h3
    simp only [F55, c55, r55_0, r55_1, r55_2, r55_3, List.replicate, Cv.pts, newsOf, bnds, bMax, bHigh, bLow, Option.isSome_none, Option.map_none, lt0 hid, lt1 hid, h3, nmin34, Cv.row, Nat.sub_zero, go_sem, Int.reduceTMod, Int.reduceTDiv, Int.reduceDiv, Int.reduceMod, Int.reduceAdd, Int.reduceSub, Int.reduceMul, Int.reduceNeg, Int.reducePow, Int.reduceEq, bne_iff_ne, Int.cast_ofNat_Int, ↓reduceIte, Nat.reduceEqDiff, Nat.reduceAdd, Nat.reduceMul, Nat.reduceLeDiff, Nat.reduceSub, Nat.reduceLT, Int.reduceToNat, Int.reduceLT, Int.reduceLE, reduceCtorEq, Nat.zero_add, Nat.add_zero, and_self, and_true, true_and, ne_eq, not_false_eq_true, not_true_eq_false, decide_true, decide_false, Bool.false_eq_true, Bool.not_true, Bool.not_false, Bool.true_and, Bool.and_true, Bool.or_false, Bool.false_or, Bool.and_self]
  | cub a b c d =>
    rcases hr with ⟨_, h, _⟩ | ⟨id, off, cap, rfl, hid, h3⟩
    · cases h
    simp only [encP, Cv.pts, List.flatMap_cons, List.flatMap_nil, List.cons_append, List.nil_append, List.append_nil, List.length_cons, List.length_nil, Nat.zero_add, Nat.reduceAdd, Nat.reduceMul] at h3
    simp only [F55, c55, r55_0, r55_1, r55_2, r55_3, List.replicate, Cv.pts, newsOf, bnds, bMax, bHigh, bLow, Option.isSome_none, Option.map_none, lt0 hid, lt1 hid, h3, nmin44, Cv.row, Nat.sub_zero, go_sem, Int.reduceTMod, Int.reduceTDiv, Int.reduceDiv, Int.reduceMod, Int.reduceAdd, Int.reduceSub, Int.reduceMul, Int.reduceNeg, Int.reducePow, Int.reduceEq, bne_iff_ne, Int.cast_ofNat_Int, ↓reduceIte, Nat.reduceEqDiff, Nat.reduceAdd, Nat.reduceMul, Nat.reduceLeDiff, Nat.reduceSub, Nat.reduceLT, Int.reduceToNat, Int.reduceLT, Int.reduceLE, reduceCtorEq, Nat.zero_add, Nat.add_zero, and_self, and_true, true_and, ne_eq, not_false_eq_true, not_true_eq_false, decide_true, decide_false, Bool.false_eq_true, Bool.not_true, Bool.not_false, Bool.true_and, Bool.and_true, Bool.or_false, Bool.false_or, Bool.and_self]

/-! ### what is appended to -/
theorem evApp_push {m : Mem} {n sz by' id len k : Nat} {cap : Option Nat} {xr : Reg} {b : Blk} {olds news : List Cell} (hx : newsOf m sz xr = some (k, news)) (hk : 0 < k) (hle : len + k ≤ 4294967296) (hb : m id = some b) (hown : b.own = true)
    (hrd : rd m id 0 (len * sz) = some olds) (hcap : cap = none ∨ ∃ c, cap = some c ∧ c < len + k) :
    ∃ m', evApp m n sz by' (.one (.sl id 0 len cap sz)) xr = some (.one (.sl n 0 (len + k) none sz), m', n + 1) ∧ m' n = some ⟨olds ++ news, true⟩ ∧ ∀ i, i ≠ n → i ≠ id → m' i = m i := by
  rcases hcap with rfl | ⟨c, rfl, hc⟩
  · refine ⟨upd (upd m id none) n (some ⟨olds ++ news, true⟩), by simp [evApp, hx, hle, hb, hown, hrd], upd_same _ _ _, fun i h1 h2 => by rw [upd_ne _ _ h1, upd_ne _ _ h2]⟩
  · have : ¬ (len + k ≤ c) := by omega
    refine ⟨upd m n (some ⟨olds ++ news, true⟩), by simp [evApp, hx, hle, this, hrd], upd_same _ _ _, fun i h1 h2 => by rw [upd_ne _ _ h1]⟩
theorem evApp_nil {m : Mem} {n sz by' k : Nat} {xr : Reg} {news : List Cell} (hx : newsOf m sz xr = some (k, news)) (hk : 0 < k) (hle : k ≤ 4294967296) :
    evApp m n sz by' rnil xr = some (.one (.sl n 0 k none sz), upd m n (some ⟨news, true⟩), n + 1) := by
  have : k ≠ 0 := by omega
  simp [evApp, hx, this, hle]

/-- A slice that is one's own. -/
def Ow (base : Nat) (m : Mem) (n : Nat) (r : Reg) (cs : List Cell) (len sz : Nat) : Prop :=
  (r = rnil ∧ len = 0 ∧ cs = []) ∨ ∃ id, r = .one (.sl id 0 len none sz) ∧ base ≤ id ∧ id < n ∧ m id = some ⟨cs, true⟩ ∧ cs.length = len * sz
/-- The number of a slice. -/
theorem Ow.rd {base : Nat} {m : Mem} {n : Nat} {r : Reg} {cs : List Cell} {len sz : Nat} (h : Ow base m n r cs len sz) : Rd m n r cs len sz := by
  rcases h with h | ⟨id, h1, h2, h3, h4, h5⟩
  · exact Or.inl h
  · refine Or.inr ⟨id, 0, none, h1, h3, ?_⟩
    unfold Sy.rd
    rw [h4]
    simp [h5]
    rw [← h5, List.take_length]
theorem Ow.keep {base : Nat} {m m' : Mem} {n n' : Nat} {r : Reg} {cs : List Cell} {len sz : Nat} (h : Ow base m n r cs len sz) (hn : n ≤ n') (hm : ∀ id, sid r = some id → m' id = m id) : Ow base m' n' r cs len sz := by
  rcases h with h | ⟨id, h1, h2, h3, h4, h5⟩
  · exact Or.inl h
  · exact Or.inr ⟨id, h1, h2, by omega, by rw [hm id (by rw [h1]; rfl)]; exact h4, h5⟩

theorem Ow.app {base : Nat} {m : Mem} {n sz by' len k : Nat} {r xr : Reg} {cs news : List Cell} (h : Ow base m n r cs len sz) (hbn : base ≤ n) (hx : newsOf m sz xr = some (k, news)) (hk : 0 < k) (hle : len + k ≤ 4294967296) (hnl : news.length = k * sz) :
    ∃ m', evApp m n sz by' r xr = some (.one (.sl n 0 (len + k) none sz), m', n + 1) ∧ Ow base m' (n + 1) (.one (.sl n 0 (len + k) none sz)) (cs ++ news) (len + k) sz ∧ ∀ i, i ≠ n → (∀ id, sid r = some id → i ≠ id) → m' i = m i := by
  rcases h with ⟨rfl, rfl, rfl⟩ | ⟨id, rfl, h2, h3, h4, h5⟩
  · refine ⟨_, evApp_nil hx hk (by omega) |>.trans (by rw [Nat.zero_add]), Or.inr ⟨n, rfl, hbn, Nat.lt_succ_self _, ?_, ?_⟩, fun i h1 _ => upd_ne _ _ h1⟩
    · rw [upd_same]; simp
    · simp [hnl]
  · have hrd : Sy.rd m id 0 (len * sz) = some cs := by
      unfold Sy.rd
      rw [h4]
      simp [h5]
      rw [← h5, List.take_length]
    obtain ⟨m', h6, h7, h8⟩ := evApp_push (n := n) (by' := by') (cap := none) hx hk hle h4 rfl hrd (Or.inl rfl)
    refine ⟨m', h6, Or.inr ⟨n, rfl, hbn, Nat.lt_succ_self _, h7, ?_⟩, fun i h1 h9 => h8 i h1 (h9 id rfl)⟩
    rw [List.length_append, h5, hnl, Nat.add_mul]
end Go.Proofs.YtpleidpbapgmiaaDoor.Sy.Cu

/- Curves: a curve as_ lines. Conditions: those that each theorem names. -/
namespace Go.Proofs.YtpleidpbapgmiaaDoor.Sy.Cu
open Go Go.Proofs
set_option linter.unusedSimpArgs false
set_option linter.unusedVariables false
attribute [local go_sem] R_nil R_mv R_pick R_alloc R_box R_build R_bslice R_load1 R_loadA R_store R_nilchk R_bin R_beq R_eqv R_eqnil R_un R_conv R_mkfn R_mkslice R_slS R_slA R_fadr R_fld R_iadrA R_iadrS R_idxA R_ext R_len R_lenC R_cap R_app R_appz R_pre R_cpy R_mn R_mx
  noId Bool.false_or evalOp evO evOs upd_upd upd_at unfrz_at putE_some putE_none Then_some X_seq X_reg X_dreg X_ureg X_ret X_skip X_exit X_block X_condK condK_bool Next_n Next_x Next_r Out_n Out_x Out_r Ret_n Ret_r
  bin_shr1 bin_add bin_sub bin_mul bin_lss bin_leq bin_gtr bin_geq bin_eql bin_neq un_not un_neg boolOf_b boolOf_tup R_guard Option.map_some evRes pack_one pack_two pack_three pack_none List.getD_cons_zero List.getD_cons_succ getD_nil
  Option.some.injEq exists_eq_left' Reg.cs? fillC setL List.set_cons_zero List.set_cons_succ List.length_cons List.length_nil rd_upd rdB wr List.drop_zero List.drop_succ_cons List.take_succ_cons List.take_zero List.getElem?_cons_zero List.getElem?_cons_succ
  ix Int.toNat_zero lenO_sl lenO_nil sn1 ns1 sn2 ns2 sn3 ns3 sn4 ns4 sn5 ns5 sn6 ns6 sn7 ns7 sn8 ns8 sn9 ns9 sn10 ns10 sn11 ns11 sn12 ns12 sk1_2 sk1_3 sk1_4 sk1_5 sk1_6 sk1_7 sk1_8 sk2_1 sk2_3 sk2_4 sk2_5 sk2_6 sk2_7 sk2_8 sk3_1 sk3_2 sk3_4 sk3_5 sk3_6 sk3_7 sk3_8 sk4_1 sk4_2 sk4_3 sk4_5 sk4_6 sk4_7 sk4_8 sk5_1 sk5_2 sk5_3 sk5_4 sk5_6 sk5_7 sk5_8 sk6_1 sk6_2 sk6_3 sk6_4 sk6_5 sk6_7 sk6_8 sk7_1 sk7_2 sk7_3 sk7_4 sk7_5 sk7_6 sk7_8 sk8_1 sk8_2 sk8_3 sk8_4 sk8_5 sk8_6 sk8_7

def Cv.last : Cv → Pt
  | .quad _ _ c => c
  | .cub _ _ _ d => d
/-- A curve as_ lines. -/
def flat : Nat → Cv → List Pt
  | 0, v => [v.last]
  | d + 1, v => flat d v.fst ++ flat d v.snd

theorem Cv.inP_fst {v : Cv} (h : v.inP = true) : v.fst.inP = true := by
  cases v with
  | quad a b c =>
    simp only [Cv.inP, Bool.and_eq_true] at h
    obtain ⟨⟨ha, hb⟩, hc⟩ := h
    simp only [Cv.fst, Cv.inP, ha, inP_mid ha hb, inP_mid (inP_mid ha hb) (inP_mid hb hc), Bool.and_self]
  | cub a b c d =>
    simp only [Cv.inP, Bool.and_eq_true] at h
    obtain ⟨⟨⟨ha, hb⟩, hc⟩, hd⟩ := h
    have h1 := inP_mid ha hb
    have h2 := inP_mid hb hc
    have h3 := inP_mid hc hd
    simp only [Cv.fst, Cv.inP, ha, h1, inP_mid h1 h2, inP_mid (inP_mid h1 h2) (inP_mid h2 h3), Bool.and_self]
theorem Cv.inP_snd {v : Cv} (h : v.inP = true) : v.snd.inP = true := by
  cases v with
  | quad a b c =>
    simp only [Cv.inP, Bool.and_eq_true] at h
    obtain ⟨⟨ha, hb⟩, hc⟩ := h
    simp only [Cv.snd, Cv.inP, hc, inP_mid hb hc, inP_mid (inP_mid ha hb) (inP_mid hb hc), Bool.and_self]
  | cub a b c d =>
    simp only [Cv.inP, Bool.and_eq_true] at h
    obtain ⟨⟨⟨ha, hb⟩, hc⟩, hd⟩ := h
    have h1 := inP_mid ha hb
    have h2 := inP_mid hb hc
    have h3 := inP_mid hc hd
    simp only [Cv.snd, Cv.inP, hd, h3, inP_mid h2 h3, inP_mid (inP_mid h1 h2) (inP_mid h2 h3), Bool.and_self]

theorem flat_length (d : Nat) : ∀ v, (flat d v).length = 2 ^ d := by
  induction d with
  | zero => intro v; rfl
  | succ d ih => intro v; rw [flat, List.length_append, ih, ih, Nat.pow_succ]; omega

/-- What waits. -/
abbrev encW (l : List (Cv × Nat)) : List Cell := l.flatMap fun x => x.1.row ++ [I x.2]
theorem row9 (v : Cv) : v.row.length = 9 := by cases v <;> rfl
theorem encW10 (x : Cv × Nat) : (x.1.row ++ [I x.2]).length = 10 := by rw [List.length_append, row9]; rfl

def goes (l : List (Cv × Nat)) : List Pt := (l.reverse.map fun x => flat x.2 x.1).flatten
def work (l : List (Cv × Nat)) : Nat := (l.map fun x => 2 ^ (x.2 + 1) - 1).sum
def outs (l : List (Cv × Nat)) : Nat := (l.map fun x => 2 ^ x.2).sum

theorem goes_snoc (l : List (Cv × Nat)) (v : Cv) (d : Nat) : goes (l ++ [(v, d)]) = flat d v ++ goes l := by simp [goes]
theorem work_snoc (l : List (Cv × Nat)) (v : Cv) (d : Nat) : work (l ++ [(v, d)]) = work l + (2 ^ (d + 1) - 1) := by simp [work]
theorem outs_snoc (l : List (Cv × Nat)) (v : Cv) (d : Nat) : outs (l ++ [(v, d)]) = outs l + 2 ^ d := by simp [outs]
theorem len_outs (l : List (Cv × Nat)) : l.length ≤ outs l := by
  induction l with
  | nil => simp [outs]
  | cons x l ih =>
    have : 1 ≤ 2 ^ x.2 := Nat.one_le_two_pow
    simp only [outs, List.map_cons, List.sum_cons, List.length_cons] at ih ⊢
    omega

structure FInv (n0 : Nat) (m0 : Mem) (all : List Pt) (st : List (Cv × Nat)) (acc : List Pt) (r7 r8 : Reg) (m : Mem) (n : Nat) : Prop where
  nn : n0 ≤ n
  old : ∀ id, id < n0 → m id = m0 id
  out : Ow n0 m n r7 (encP acc) acc.length 2
  stk : ∃ id cap b, r8 = .one (.sl id 0 st.length cap 10) ∧ n0 ≤ id ∧ id < n ∧ m id = some b ∧ b.own = true ∧ rd m id 0 (st.length * 10) = some (encW st) ∧ sid r7 ≠ some id ∧ (cap = none ∨ (cap = some 1 ∧ st.length ≤ 1))
  inp : ∀ x ∈ st, x.1.inP = true ∧ x.2 ≤ 6
  goes : acc ++ Cu.goes st = all
  small : acc.length + outs st ≤ 64

set_option maxHeartbeats 4000000 in
theorem flatLoop (n0 : Nat) (m0 : Mem) (all : List Pt) : ∀ (k : Nat) (st : List (Cv × Nat)) (acc : List Pt) (s : St), work st ≤ k → FInv n0 m0 all st acc (s.e 7) (s.e 8) s.m s.n →
    X TA (.loop l34_0) s (fun e s' => e = .x 0 ∧ n0 ≤ s'.n ∧ (∀ id, id < n0 → s'.m id = m0 id) ∧ Ow n0 s'.m s'.n (s'.e 7) (encP all) all.length 2) := by
  obtain ⟨L, hL⟩ : ∃ L_, L_ = SC.loop l34_0 := ⟨_, rfl⟩
  have hX : ∀ s Q, X TA l34_0 s (Next Q (fun s_ => X TA L s_ Q)) → X TA L s Q := by subst hL; exact fun _ _ h => X_loop h
  rw [← hL]
  intro k
  induction k with
  | zero =>
    intro st acc s hk hI
    have h0 : st = [] := by
      cases st with
      | nil => rfl
      | cons x st =>
        have : 1 ≤ 2 ^ x.2 := Nat.one_le_two_pow
        simp only [work, List.map_cons, List.sum_cons, Nat.pow_succ] at hk
        omega
    subst h0
    obtain ⟨id, cap, b, h8, _⟩ := hI.stk
    have hg := hI.goes
    simp only [goes, List.reverse_nil, List.map_nil, List.flatten_nil, List.append_nil] at hg
    refine hX _ _ ?_
    simp only [l34_0, r34_8, h8, Int.natCast_zero, Int.lt_irrefl, go_sem, Int.reduceTMod, Int.reduceTDiv, Int.reduceDiv, Int.reduceMod, Int.reduceAdd, Int.reduceSub, Int.reduceMul, Int.reduceNeg, Int.reducePow, Int.reduceEq, bne_iff_ne, Int.cast_ofNat_Int, ↓reduceIte, Nat.reduceEqDiff, Nat.reduceAdd, Nat.reduceMul, Nat.reduceLeDiff, Nat.reduceSub, Nat.reduceLT, Int.reduceToNat, Int.reduceLT, Int.reduceLE, reduceCtorEq, Nat.zero_add, Nat.add_zero, and_self, and_true, true_and, ne_eq, not_false_eq_true, not_true_eq_false, decide_true, decide_false, Bool.false_eq_true, Bool.not_true, Bool.not_false, Bool.true_and, Bool.and_true, Bool.or_false, Bool.false_or, Bool.and_self]
    exact ⟨hI.nn, hI.old, hg ▸ hI.out⟩
  | succ k ih =>
    intro st acc s hk hI
    rcases List.eq_nil_or_concat st with rfl | ⟨st, ⟨v, d⟩, rfl⟩
    · obtain ⟨id, cap, b, h8, _⟩ := hI.stk
      have hg := hI.goes
      simp only [goes, List.reverse_nil, List.map_nil, List.flatten_nil, List.append_nil] at hg
      refine hX _ _ ?_
      simp only [l34_0, r34_8, h8, Int.natCast_zero, Int.lt_irrefl, go_sem, Int.reduceTMod, Int.reduceTDiv, Int.reduceDiv, Int.reduceMod, Int.reduceAdd, Int.reduceSub, Int.reduceMul, Int.reduceNeg, Int.reducePow, Int.reduceEq, bne_iff_ne, Int.cast_ofNat_Int, ↓reduceIte, Nat.reduceEqDiff, Nat.reduceAdd, Nat.reduceMul, Nat.reduceLeDiff, Nat.reduceSub, Nat.reduceLT, Int.reduceToNat, Int.reduceLT, Int.reduceLE, reduceCtorEq, Nat.zero_add, Nat.add_zero, and_self, and_true, true_and, ne_eq, not_false_eq_true, not_true_eq_false, decide_true, decide_false, Bool.false_eq_true, Bool.not_true, Bool.not_false, Bool.true_and, Bool.and_true, Bool.or_false, Bool.false_or, Bool.and_self]
      exact ⟨hI.nn, hI.old, hg ▸ hI.out⟩
    · rw [List.concat_eq_append] at hI hk
      obtain ⟨id, cap, b, h8, hid0, hid, hb, hown, hrd, hne, hcap⟩ := hI.stk
      obtain ⟨hv, hd6⟩ := hI.inp (v, d) (by simp)
      have hsm := hI.small
      rw [outs_snoc] at hsm
      have hlo := len_outs st
      have hpos : 1 ≤ 2 ^ d := Nat.one_le_two_pow
      have hlen : (st ++ [(v, d)]).length = st.length + 1 := by simp
      rw [hlen] at h8 hrd hcap
      have e1 : (((st.length + 1 : Nat) : Int)) = (st.length : Int) + 1 := rfl
      have hgt : (0 : Int) < (st.length : Int) + 1 := by omega
      have hw1 : IntKind.i64.wrap ((st.length : Int) + 1 - 1) = (st.length : Int) := by rw [wr_eq (by omega) (by omega)]; omega
      have hle0 : (0 : Int) ≤ (st.length : Int) := by omega
      have hlt1 : (st.length : Int) < (st.length : Int) + 1 := by omega
      have hle1 : (st.length : Int) ≤ (st.length : Int) + 1 := by omega
      have hat : rd s.m id (st.length * 10) 10 = some (v.row ++ [I d]) := by
        have := rd_at (enc := fun x : Cv × Nat => x.1.row ++ [I x.2]) encW10 (l := st ++ [(v, d)]) (i := st.length) (x := (v, d)) (by rw [hlen]; exact hrd) (by simp)
        simpa using this
      have hrow : (v.row ++ [I (d : Int)]).length = 10 := encW10 (v, d)
      have h9 : (v.row ++ [I (d : Int)])[9]? = some (I d) := by
        rw [List.getElem?_append_right (by rw [row9]; exact Nat.le_refl _), row9]; rfl
      have hset : Sy.setL (List.replicate 10 (.sc (.int .i64 0))) 0 (v.row ++ [I (d : Int)]) = v.row ++ [I d] := by
        cases v <;> rfl
      obtain ⟨cap', hbn, hcap'⟩ : ∃ cap', bnds (st.length + 1) cap none (some (RI st.length)) none = some (0, st.length, cap') ∧ (cap' = none ∨ (cap' = some 1 ∧ st.length = 0)) := by
        rcases hcap with rfl | ⟨rfl, h⟩
        · exact ⟨none, by simp [bnds, bMax, bHigh, bLow, inR, ix, hle0, hle1], Or.inl rfl⟩
        · have h0 : st.length = 0 := by omega
          exact ⟨some 1, by simp [bnds, bMax, bHigh, bLow, inR, ix, h0], Or.inr ⟨rfl, h0⟩⟩
      have hids : (id = s.n) = False := lt0 hid
      have hrd' : rd s.m id 0 (st.length * 10) = some (encW st) := by
        have := rd_part (a := 0) (b := st.length * 10) hrd (by omega)
        rw [Nat.add_zero] at this
        rw [this, List.drop_zero, encW, List.flatMap_append, List.take_append_of_le_length (by rw [flatMap_len _ 10 encW10]; exact Nat.le_refl _), List.take_of_length_le (by rw [flatMap_len _ 10 encW10]; exact Nat.le_refl _)]
      have hwk := hk
      rw [work_snoc] at hwk
      have hinp : ∀ x ∈ st, x.1.inP = true ∧ x.2 ≤ 6 := fun x hx => hI.inp x (by simp [hx])
      have hgo := hI.goes
      rw [goes_snoc] at hgo
      have hold : ∀ i, i < n0 → i ≠ s.n ∧ i ≠ s.n + 1 ∧ i ≠ s.n + 1 + 1 ∧ i ≠ s.n + 1 + 1 + 1 ∧ i ≠ s.n + 1 + 1 + 1 + 1 := fun i hi => by have := hI.nn; omega
      have hout := hI.out
      have hsid : ∀ i, sid (s.e 7) = some i → n0 ≤ i ∧ i < s.n := by
        intro i hi
        rcases hout with ⟨h, _⟩ | ⟨j, h, h1, h2, _⟩
        · rw [h] at hi; cases hi
        · rw [h] at hi; simp only [sid, Option.some.injEq] at hi; subst hi; exact ⟨h1, h2⟩
      have hpush : 2 ^ (d + 1) = 2 * 2 ^ d := by rw [Nat.pow_succ]; omega
      refine hX _ _ ?_
      cases d with
      | zero =>
        have hv' := hv
        have hnew : ∀ (p : Pt), newsOf (upd (upd s.m s.n (some ⟨v.row ++ [I (0 : Nat)], true⟩)) (s.n + 1) (some ⟨p.cs, true⟩)) 2 (.one (.sl (s.n + 1) 0 1 (some 1) 2)) = some (1, p.cs) := fun p => by
          simp only [newsOf, go_sem, Int.reduceTMod, Int.reduceTDiv, Int.reduceDiv, Int.reduceMod, Int.reduceAdd, Int.reduceSub, Int.reduceMul, Int.reduceNeg, Int.reducePow, Int.reduceEq, bne_iff_ne, Int.cast_ofNat_Int, ↓reduceIte, Nat.reduceEqDiff, Nat.reduceAdd, Nat.reduceMul, Nat.reduceLeDiff, Nat.reduceSub, Nat.reduceLT, Int.reduceToNat, Int.reduceLT, Int.reduceLE, reduceCtorEq, Nat.zero_add, Nat.add_zero, and_self, and_true, true_and, ne_eq, not_false_eq_true, not_true_eq_false, decide_true, decide_false, Bool.false_eq_true, Bool.not_true, Bool.not_false, Bool.true_and, Bool.and_true, Bool.or_false, Bool.false_or, Bool.and_self]
        have hkeep : Ow n0 (upd (upd s.m s.n (some ⟨v.row ++ [I (0 : Nat)], true⟩)) (s.n + 1) (some ⟨v.last.cs, true⟩)) (s.n + 1 + 1) (s.e 7) (encP acc) acc.length 2 :=
          hout.keep (by omega) (fun i hi => by have := hsid i hi; simp only [lt0 this.2, lt1 this.2, go_sem, Int.reduceTMod, Int.reduceTDiv, Int.reduceDiv, Int.reduceMod, Int.reduceAdd, Int.reduceSub, Int.reduceMul, Int.reduceNeg, Int.reducePow, Int.reduceEq, bne_iff_ne, Int.cast_ofNat_Int, ↓reduceIte, Nat.reduceEqDiff, Nat.reduceAdd, Nat.reduceMul, Nat.reduceLeDiff, Nat.reduceSub, Nat.reduceLT, Int.reduceToNat, Int.reduceLT, Int.reduceLE, reduceCtorEq, Nat.zero_add, Nat.add_zero, and_self, and_true, true_and, ne_eq, not_false_eq_true, not_true_eq_false, decide_true, decide_false, Bool.false_eq_true, Bool.not_true, Bool.not_false, Bool.true_and, Bool.and_true, Bool.or_false, Bool.false_or, Bool.and_self])
        obtain ⟨m', h1, h2, h3⟩ := Ow.app (by' := 16) hkeep (by have := hI.nn; omega) (hnew v.last) (by omega) (by omega) rfl
        have hfin : FInv n0 m0 all st (acc ++ [v.last]) (.one (.sl (s.n + 1 + 1) 0 (acc.length + 1) none 2)) (.one (.sl id 0 st.length cap' 10)) m' (s.n + 1 + 1 + 1) := by
          refine ⟨by have := hI.nn; omega, fun i hi => ?_, ?_, ⟨id, cap', b, rfl, hid0, by omega, ?_, hown, ?_, ?_, ?_⟩, hinp, ?_, ?_⟩
          · obtain ⟨q1, q2, q3, _⟩ := hold i hi
            rw [h3 i q3 (fun j hj => by have := hsid j hj; omega)]
            have e1 : (i = s.n) = False := eq_false q1
            have e2 : (i = s.n + 1) = False := eq_false q2
            simp only [e1, e2, go_sem, Int.reduceTMod, Int.reduceTDiv, Int.reduceDiv, Int.reduceMod, Int.reduceAdd, Int.reduceSub, Int.reduceMul, Int.reduceNeg, Int.reducePow, Int.reduceEq, bne_iff_ne, Int.cast_ofNat_Int, ↓reduceIte, Nat.reduceEqDiff, Nat.reduceAdd, Nat.reduceMul, Nat.reduceLeDiff, Nat.reduceSub, Nat.reduceLT, Int.reduceToNat, Int.reduceLT, Int.reduceLE, reduceCtorEq, Nat.zero_add, Nat.add_zero, and_self, and_true, true_and, ne_eq, not_false_eq_true, not_true_eq_false, decide_true, decide_false, Bool.false_eq_true, Bool.not_true, Bool.not_false, Bool.true_and, Bool.and_true, Bool.or_false, Bool.false_or, Bool.and_self]
            exact hI.old i hi
          · simpa [encP, List.flatMap_append] using h2
          · rw [h3 id (by omega) (fun j hj e => hne (by rw [hj, e]))]
            simp only [hids, lt1 hid, go_sem, Int.reduceTMod, Int.reduceTDiv, Int.reduceDiv, Int.reduceMod, Int.reduceAdd, Int.reduceSub, Int.reduceMul, Int.reduceNeg, Int.reducePow, Int.reduceEq, bne_iff_ne, Int.cast_ofNat_Int, ↓reduceIte, Nat.reduceEqDiff, Nat.reduceAdd, Nat.reduceMul, Nat.reduceLeDiff, Nat.reduceSub, Nat.reduceLT, Int.reduceToNat, Int.reduceLT, Int.reduceLE, reduceCtorEq, Nat.zero_add, Nat.add_zero, and_self, and_true, true_and, ne_eq, not_false_eq_true, not_true_eq_false, decide_true, decide_false, Bool.false_eq_true, Bool.not_true, Bool.not_false, Bool.true_and, Bool.and_true, Bool.or_false, Bool.false_or, Bool.and_self]
            exact hb
          · have : rd m' id 0 (st.length * 10) = rd s.m id 0 (st.length * 10) := by
              unfold rd
              rw [h3 id (by omega) (fun j hj e => hne (by rw [hj, e]))]
              simp only [hids, lt1 hid, go_sem, Int.reduceTMod, Int.reduceTDiv, Int.reduceDiv, Int.reduceMod, Int.reduceAdd, Int.reduceSub, Int.reduceMul, Int.reduceNeg, Int.reducePow, Int.reduceEq, bne_iff_ne, Int.cast_ofNat_Int, ↓reduceIte, Nat.reduceEqDiff, Nat.reduceAdd, Nat.reduceMul, Nat.reduceLeDiff, Nat.reduceSub, Nat.reduceLT, Int.reduceToNat, Int.reduceLT, Int.reduceLE, reduceCtorEq, Nat.zero_add, Nat.add_zero, and_self, and_true, true_and, ne_eq, not_false_eq_true, not_true_eq_false, decide_true, decide_false, Bool.false_eq_true, Bool.not_true, Bool.not_false, Bool.true_and, Bool.and_true, Bool.or_false, Bool.false_or, Bool.and_self]
            rw [this]; exact hrd'
          · simp only [sid, go_sem, Int.reduceTMod, Int.reduceTDiv, Int.reduceDiv, Int.reduceMod, Int.reduceAdd, Int.reduceSub, Int.reduceMul, Int.reduceNeg, Int.reducePow, Int.reduceEq, bne_iff_ne, Int.cast_ofNat_Int, ↓reduceIte, Nat.reduceEqDiff, Nat.reduceAdd, Nat.reduceMul, Nat.reduceLeDiff, Nat.reduceSub, Nat.reduceLT, Int.reduceToNat, Int.reduceLT, Int.reduceLE, reduceCtorEq, Nat.zero_add, Nat.add_zero, and_self, and_true, true_and, ne_eq, not_false_eq_true, not_true_eq_false, decide_true, decide_false, Bool.false_eq_true, Bool.not_true, Bool.not_false, Bool.true_and, Bool.and_true, Bool.or_false, Bool.false_or, Bool.and_self]; omega
          · rcases hcap' with rfl | ⟨rfl, h⟩
            · exact Or.inl rfl
            · exact Or.inr ⟨rfl, by omega⟩
          · rw [← hgo]; simp [flat]
          · simp only [List.length_append, List.length_cons, List.length_nil] at hsm ⊢; omega
        have wi : ∀ k : Int, -100 ≤ k → k ≤ 100 → IntKind.i64.wrap k = k := fun k h1 h2 => wr_eq (by omega) (by omega)
        have z0 : ((0 : Nat) : Int) = 0 := rfl
        have fin : ∀ (e : Nat → Reg), e 7 = .one (.sl (s.n + 1 + 1) 0 (acc.length + 1) none 2) → e 8 = .one (.sl id 0 st.length cap' 10) → X TA L ⟨e, m', s.n + 1 + 1 + 1⟩ (fun e s' => e = .x 0 ∧ n0 ≤ s'.n ∧ (∀ id, id < n0 → s'.m id = m0 id) ∧ Ow n0 s'.m s'.n (s'.e 7) (encP all) all.length 2) := by
          intro e h7 h8
          refine ih st (acc ++ [v.last]) _ (by omega) ?_
          simp only [h7, h8]
          exact hfin
        cases v with
        | quad a b' c =>
          simp only [Cv.row, List.cons_append, List.nil_append, z0] at hat h1
          simp only [Cv.last] at h1 fin
          simp only [l34_0, r34_8, h8, e1, hgt, r34_9, hw1, hle0, hlt1, Int.toNat_natCast, hat, List.replicate, r34_10, Option.map_none, hbn, Nat.zero_mul, Nat.sub_zero, r34_11, Int.natCast_zero, r34_12, wi, Int.reduceSub, Int.reduceNeg, h1, go_sem, Int.reduceTMod, Int.reduceTDiv, Int.reduceDiv, Int.reduceMod, Int.reduceAdd, Int.reduceSub, Int.reduceMul, Int.reduceNeg, Int.reducePow, Int.reduceEq, bne_iff_ne, Int.cast_ofNat_Int, ↓reduceIte, Nat.reduceEqDiff, Nat.reduceAdd, Nat.reduceMul, Nat.reduceLeDiff, Nat.reduceSub, Nat.reduceLT, Int.reduceToNat, Int.reduceLT, Int.reduceLE, reduceCtorEq, Nat.zero_add, Nat.add_zero, and_self, and_true, true_and, ne_eq, not_false_eq_true, not_true_eq_false, decide_true, decide_false, Bool.false_eq_true, Bool.not_true, Bool.not_false, Bool.true_and, Bool.and_true, Bool.or_false, Bool.false_or, Bool.and_self]
          refine fin _ ?_ ?_ <;> simp only [go_sem, Int.reduceTMod, Int.reduceTDiv, Int.reduceDiv, Int.reduceMod, Int.reduceAdd, Int.reduceSub, Int.reduceMul, Int.reduceNeg, Int.reducePow, Int.reduceEq, bne_iff_ne, Int.cast_ofNat_Int, ↓reduceIte, Nat.reduceEqDiff, Nat.reduceAdd, Nat.reduceMul, Nat.reduceLeDiff, Nat.reduceSub, Nat.reduceLT, Int.reduceToNat, Int.reduceLT, Int.reduceLE, reduceCtorEq, Nat.zero_add, Nat.add_zero, and_self, and_true, true_and, ne_eq, not_false_eq_true, not_true_eq_false, decide_true, decide_false, Bool.false_eq_true, Bool.not_true, Bool.not_false, Bool.true_and, Bool.and_true, Bool.or_false, Bool.false_or, Bool.and_self]
        | cub a b' c d' =>
          simp only [Cv.row, List.cons_append, List.nil_append, z0] at hat h1
          simp only [Cv.last] at h1 fin
          simp only [l34_0, r34_8, h8, e1, hgt, r34_9, hw1, hle0, hlt1, Int.toNat_natCast, hat, List.replicate, r34_10, Option.map_none, hbn, Nat.zero_mul, Nat.sub_zero, r34_11, Int.natCast_zero, r34_12, wi, Int.reduceSub, Int.reduceNeg, h1, go_sem, Int.reduceTMod, Int.reduceTDiv, Int.reduceDiv, Int.reduceMod, Int.reduceAdd, Int.reduceSub, Int.reduceMul, Int.reduceNeg, Int.reducePow, Int.reduceEq, bne_iff_ne, Int.cast_ofNat_Int, ↓reduceIte, Nat.reduceEqDiff, Nat.reduceAdd, Nat.reduceMul, Nat.reduceLeDiff, Nat.reduceSub, Nat.reduceLT, Int.reduceToNat, Int.reduceLT, Int.reduceLE, reduceCtorEq, Nat.zero_add, Nat.add_zero, and_self, and_true, true_and, ne_eq, not_false_eq_true, not_true_eq_false, decide_true, decide_false, Bool.false_eq_true, Bool.not_true, Bool.not_false, Bool.true_and, Bool.and_true, Bool.or_false, Bool.false_or, Bool.and_self]
          refine fin _ ?_ ?_ <;> simp only [go_sem, Int.reduceTMod, Int.reduceTDiv, Int.reduceDiv, Int.reduceMod, Int.reduceAdd, Int.reduceSub, Int.reduceMul, Int.reduceNeg, Int.reducePow, Int.reduceEq, bne_iff_ne, Int.cast_ofNat_Int, ↓reduceIte, Nat.reduceEqDiff, Nat.reduceAdd, Nat.reduceMul, Nat.reduceLeDiff, Nat.reduceSub, Nat.reduceLT, Int.reduceToNat, Int.reduceLT, Int.reduceLE, reduceCtorEq, Nat.zero_add, Nat.add_zero, and_self, and_true, true_and, ne_eq, not_false_eq_true, not_true_eq_false, decide_true, decide_false, Bool.false_eq_true, Bool.not_true, Bool.not_false, Bool.true_and, Bool.and_true, Bool.or_false, Bool.false_or, Bool.and_self]
      | succ d =>
        have hnews : ∀ (m : Mem) (n : Nat), newsOf (upd m n (some ⟨encW [(v.snd, d), (v.fst, d)], true⟩)) 10 (.one (.sl n 0 2 (some 2) 10)) = some (2, encW [(v.snd, d), (v.fst, d)]) := by
          intro m n
          have hl : (encW [(v.snd, d), (v.fst, d)]).length = 20 := by rw [flatMap_len _ 10 encW10]; rfl
          simp only [newsOf, hl, go_sem, Int.reduceTMod, Int.reduceTDiv, Int.reduceDiv, Int.reduceMod, Int.reduceAdd, Int.reduceSub, Int.reduceMul, Int.reduceNeg, Int.reducePow, Int.reduceEq, bne_iff_ne, Int.cast_ofNat_Int, ↓reduceIte, Nat.reduceEqDiff, Nat.reduceAdd, Nat.reduceMul, Nat.reduceLeDiff, Nat.reduceSub, Nat.reduceLT, Int.reduceToNat, Int.reduceLT, Int.reduceLE, reduceCtorEq, Nat.zero_add, Nat.add_zero, and_self, and_true, true_and, ne_eq, not_false_eq_true, not_true_eq_false, decide_true, decide_false, Bool.false_eq_true, Bool.not_true, Bool.not_false, Bool.true_and, Bool.and_true, Bool.or_false, Bool.false_or, Bool.and_self]
          rw [List.take_of_length_le (by rw [hl]; exact Nat.le_refl _)]
        let M : Mem := upd (upd (upd (upd (upd (upd s.m s.n (some ⟨v.row ++ [I ((d + 1 : Nat) : Int)], true⟩)) (s.n + 1) (some ⟨List.replicate 9 (I 0), true⟩)) (s.n + 1 + 1) (some ⟨List.replicate 9 (I 0), true⟩)) (s.n + 1) (some ⟨v.fst.row, true⟩)) (s.n + 1 + 1) (some ⟨v.snd.row, true⟩)) (s.n + 1 + 1 + 1) (some ⟨encW [(v.snd, d), (v.fst, d)], true⟩)
        have hMid : ∀ i, i < s.n → M i = s.m i := fun i hi => by
          simp only [M]
          simp only [lt0 hi, lt1 hi, lt2 hi, lt3 hi, go_sem, Int.reduceTMod, Int.reduceTDiv, Int.reduceDiv, Int.reduceMod, Int.reduceAdd, Int.reduceSub, Int.reduceMul, Int.reduceNeg, Int.reducePow, Int.reduceEq, bne_iff_ne, Int.cast_ofNat_Int, ↓reduceIte, Nat.reduceEqDiff, Nat.reduceAdd, Nat.reduceMul, Nat.reduceLeDiff, Nat.reduceSub, Nat.reduceLT, Int.reduceToNat, Int.reduceLT, Int.reduceLE, reduceCtorEq, Nat.zero_add, Nat.add_zero, and_self, and_true, true_and, ne_eq, not_false_eq_true, not_true_eq_false, decide_true, decide_false, Bool.false_eq_true, Bool.not_true, Bool.not_false, Bool.true_and, Bool.and_true, Bool.or_false, Bool.false_or, Bool.and_self]
        have hMrd : rd M id 0 (st.length * 10) = some (encW st) := by
          have : rd M id 0 (st.length * 10) = rd s.m id 0 (st.length * 10) := by unfold rd; rw [hMid id hid]
          rw [this]; exact hrd'
        obtain ⟨m', h1, h2, h3⟩ := evApp_push (m := M) (n := s.n + 1 + 1 + 1 + 1) (by' := 80) (hnews _ _) (by omega) (by omega) ((hMid id hid).trans hb) hown hMrd (show cap' = none ∨ ∃ c, cap' = some c ∧ c < st.length + 2 by
          rcases hcap' with h | ⟨h, h'⟩
          · exact Or.inl h
          · exact Or.inr ⟨1, h, by omega⟩)
        have hst2 : encW st ++ encW [(v.snd, d), (v.fst, d)] = encW (st ++ [(v.snd, d), (v.fst, d)]) := by simp only [encW, List.flatMap_append]
        have hlen2 : (st ++ [(v.snd, d), (v.fst, d)]).length = st.length + 2 := by simp
        have hfin : FInv n0 m0 all (st ++ [(v.snd, d), (v.fst, d)]) acc (s.e 7) (.one (.sl (s.n + 1 + 1 + 1 + 1) 0 (st.length + 2) none 10)) m' (s.n + 1 + 1 + 1 + 1 + 1) := by
          refine ⟨by have := hI.nn; omega, fun i hi => ?_, ?_, ⟨s.n + 1 + 1 + 1 + 1, none, _, by rw [hlen2], by have := hI.nn; omega, by omega, h2, rfl, ?_, ?_, Or.inl rfl⟩, ?_, ?_, ?_⟩
          · rw [h3 i (by have := hI.nn; omega) (by omega), hMid i (by have := hI.nn; omega)]
            exact hI.old i hi
          · exact hout.keep (by omega) (fun i hi => by
              have := hsid i hi
              rw [h3 i (by omega) (fun e => hne (by rw [hi, e])), hMid i this.2])
          · have hl : (encW (st ++ [(v.snd, d), (v.fst, d)])).length = (st ++ [(v.snd, d), (v.fst, d)]).length * 10 := flatMap_len _ 10 encW10 _
            unfold rd
            rw [h2]
            simp only [hst2, Nat.zero_add, List.drop_zero]
            rw [if_pos (by rw [hl]; exact Nat.le_refl _), ← hl, List.take_length]
          · intro e
            have := hsid _ e
            omega
          · intro x hx
            rw [List.mem_append] at hx
            rcases hx with hx | hx
            · exact hinp x hx
            · simp only [List.mem_cons, List.not_mem_nil, or_false] at hx
              simp only at hd6 hv
              rcases hx with rfl | rfl
              · exact ⟨Cv.inP_snd hv, by omega⟩
              · exact ⟨Cv.inP_fst hv, by omega⟩
          · rw [show st ++ [(v.snd, d), (v.fst, d)] = (st ++ [(v.snd, d)]) ++ [(v.fst, d)] by simp, goes_snoc, goes_snoc, ← hgo]
            simp [flat]
          · rw [show st ++ [(v.snd, d), (v.fst, d)] = (st ++ [(v.snd, d)]) ++ [(v.fst, d)] by simp, outs_snoc, outs_snoc]
            omega
        have hwork2 : work (st ++ [(v.snd, d), (v.fst, d)]) ≤ k := by
          rw [show st ++ [(v.snd, d), (v.fst, d)] = (st ++ [(v.snd, d)]) ++ [(v.fst, d)] by simp, work_snoc, work_snoc]
          have h5 : 2 ^ (d + 1 + 1) = 2 * 2 ^ (d + 1) := by rw [Nat.pow_succ 2 (d + 1)]; omega
          have h6 : 1 ≤ 2 ^ (d + 1) := Nat.one_le_two_pow
          omega
        have fin : ∀ (e : Nat → Reg), e 7 = s.e 7 → e 8 = .one (.sl (s.n + 1 + 1 + 1 + 1) 0 (st.length + 2) none 10) → X TA L ⟨e, m', s.n + 1 + 1 + 1 + 1 + 1⟩ (fun e s' => e = .x 0 ∧ n0 ≤ s'.n ∧ (∀ id, id < n0 → s'.m id = m0 id) ∧ Ow n0 s'.m s'.n (s'.e 7) (encP all) all.length 2) := by
          intro e h7 h8
          refine ih _ acc _ hwork2 ?_
          simp only [h7, h8]
          exact hfin
        have hd0 : ¬ (((d + 1 : Nat) : Int) = 0) := by omega
        have hw2 : IntKind.i64.wrap (((d + 1 : Nat) : Int) - 1) = (d : Int) := by rw [wr_eq (by omega) (by omega)]; omega
        simp only at hv
        have hhal := halves61 v hv (fun _ => none) 1
        have wi : ∀ k : Int, -100 ≤ k → k ≤ 100 → IntKind.i64.wrap k = k := fun k h1 h2 => wr_eq (by omega) (by omega)
        cases v with
        | quad a b' c =>
          simp only [M, encW, List.flatMap_cons, List.flatMap_nil, Cv.fst, Cv.snd, Cv.row, List.cons_append, List.nil_append, List.append_nil, List.replicate] at hat h1 hhal
          simp only [l34_0, r34_8, h8, e1, hgt, r34_9, hw1, hle0, hlt1, Int.toNat_natCast, hat, List.replicate, r34_10, Option.map_none, hbn, Nat.zero_mul, Nat.sub_zero, r34_11, hd0, r34_13, go_sem, Int.reduceTMod, Int.reduceTDiv, Int.reduceDiv, Int.reduceMod, Int.reduceAdd, Int.reduceSub, Int.reduceMul, Int.reduceNeg, Int.reducePow, Int.reduceEq, bne_iff_ne, Int.cast_ofNat_Int, ↓reduceIte, Nat.reduceEqDiff, Nat.reduceAdd, Nat.reduceMul, Nat.reduceLeDiff, Nat.reduceSub, Nat.reduceLT, Int.reduceToNat, Int.reduceLT, Int.reduceLE, reduceCtorEq, Nat.zero_add, Nat.add_zero, and_self, and_true, true_and, ne_eq, not_false_eq_true, not_true_eq_false, decide_true, decide_false, Bool.false_eq_true, Bool.not_true, Bool.not_false, Bool.true_and, Bool.and_true, Bool.or_false, Bool.false_or, Bool.and_self]
          refine R_callz (by first | (simp only [flats, Reg.flat, Cell.flat, List.all_cons, List.all_nil, Bool.and_self, go_sem, Int.reduceTMod, Int.reduceTDiv, Int.reduceDiv, Int.reduceMod, Int.reduceAdd, Int.reduceSub, Int.reduceMul, Int.reduceNeg, Int.reducePow, Int.reduceEq, bne_iff_ne, Int.cast_ofNat_Int, ↓reduceIte, Nat.reduceEqDiff, Nat.reduceAdd, Nat.reduceMul, Nat.reduceLeDiff, Nat.reduceSub, Nat.reduceLT, Int.reduceToNat, Int.reduceLT, Int.reduceLE, reduceCtorEq, Nat.zero_add, Nat.add_zero, and_self, and_true, true_and, ne_eq, not_false_eq_true, not_true_eq_false, decide_true, decide_false, Bool.false_eq_true, Bool.not_true, Bool.not_false, Bool.true_and, Bool.and_true, Bool.or_false, Bool.false_or, Bool.and_self]; done) | rfl) ?_
          try simp only [go_sem, Int.reduceTMod, Int.reduceTDiv, Int.reduceDiv, Int.reduceMod, Int.reduceAdd, Int.reduceSub, Int.reduceMul, Int.reduceNeg, Int.reducePow, Int.reduceEq, bne_iff_ne, Int.cast_ofNat_Int, ↓reduceIte, Nat.reduceEqDiff, Nat.reduceAdd, Nat.reduceMul, Nat.reduceLeDiff, Nat.reduceSub, Nat.reduceLT, Int.reduceToNat, Int.reduceLT, Int.reduceLE, reduceCtorEq, Nat.zero_add, Nat.add_zero, and_self, and_true, true_and, ne_eq, not_false_eq_true, not_true_eq_false, decide_true, decide_false, Bool.false_eq_true, Bool.not_true, Bool.not_false, Bool.true_and, Bool.and_true, Bool.or_false, Bool.false_or, Bool.and_self]
          refine Fn.mono (hhal) ?_
          rintro _ _ _ rfl
          refine ⟨rfl, ?_⟩
          try simp only [hw2, r34_14, List.replicate, h1, go_sem, Int.reduceTMod, Int.reduceTDiv, Int.reduceDiv, Int.reduceMod, Int.reduceAdd, Int.reduceSub, Int.reduceMul, Int.reduceNeg, Int.reducePow, Int.reduceEq, bne_iff_ne, Int.cast_ofNat_Int, ↓reduceIte, Nat.reduceEqDiff, Nat.reduceAdd, Nat.reduceMul, Nat.reduceLeDiff, Nat.reduceSub, Nat.reduceLT, Int.reduceToNat, Int.reduceLT, Int.reduceLE, reduceCtorEq, Nat.zero_add, Nat.add_zero, and_self, and_true, true_and, ne_eq, not_false_eq_true, not_true_eq_false, decide_true, decide_false, Bool.false_eq_true, Bool.not_true, Bool.not_false, Bool.true_and, Bool.and_true, Bool.or_false, Bool.false_or, Bool.and_self]
          refine fin _ ?_ ?_ <;> simp only [go_sem, Int.reduceTMod, Int.reduceTDiv, Int.reduceDiv, Int.reduceMod, Int.reduceAdd, Int.reduceSub, Int.reduceMul, Int.reduceNeg, Int.reducePow, Int.reduceEq, bne_iff_ne, Int.cast_ofNat_Int, ↓reduceIte, Nat.reduceEqDiff, Nat.reduceAdd, Nat.reduceMul, Nat.reduceLeDiff, Nat.reduceSub, Nat.reduceLT, Int.reduceToNat, Int.reduceLT, Int.reduceLE, reduceCtorEq, Nat.zero_add, Nat.add_zero, and_self, and_true, true_and, ne_eq, not_false_eq_true, not_true_eq_false, decide_true, decide_false, Bool.false_eq_true, Bool.not_true, Bool.not_false, Bool.true_and, Bool.and_true, Bool.or_false, Bool.false_or, Bool.and_self]
        | cub a b' c d' =>
          simp only [M, encW, List.flatMap_cons, List.flatMap_nil, Cv.fst, Cv.snd, Cv.row, List.cons_append, List.nil_append, List.append_nil, List.replicate] at hat h1 hhal
          simp only [l34_0, r34_8, h8, e1, hgt, r34_9, hw1, hle0, hlt1, Int.toNat_natCast, hat, List.replicate, r34_10, Option.map_none, hbn, Nat.zero_mul, Nat.sub_zero, r34_11, hd0, r34_13, go_sem, Int.reduceTMod, Int.reduceTDiv, Int.reduceDiv, Int.reduceMod, Int.reduceAdd, Int.reduceSub, Int.reduceMul, Int.reduceNeg, Int.reducePow, Int.reduceEq, bne_iff_ne, Int.cast_ofNat_Int, ↓reduceIte, Nat.reduceEqDiff, Nat.reduceAdd, Nat.reduceMul, Nat.reduceLeDiff, Nat.reduceSub, Nat.reduceLT, Int.reduceToNat, Int.reduceLT, Int.reduceLE, reduceCtorEq, Nat.zero_add, Nat.add_zero, and_self, and_true, true_and, ne_eq, not_false_eq_true, not_true_eq_false, decide_true, decide_false, Bool.false_eq_true, Bool.not_true, Bool.not_false, Bool.true_and, Bool.and_true, Bool.or_false, Bool.false_or, Bool.and_self]
          refine R_callz (by first | (simp only [flats, Reg.flat, Cell.flat, List.all_cons, List.all_nil, Bool.and_self, go_sem, Int.reduceTMod, Int.reduceTDiv, Int.reduceDiv, Int.reduceMod, Int.reduceAdd, Int.reduceSub, Int.reduceMul, Int.reduceNeg, Int.reducePow, Int.reduceEq, bne_iff_ne, Int.cast_ofNat_Int, ↓reduceIte, Nat.reduceEqDiff, Nat.reduceAdd, Nat.reduceMul, Nat.reduceLeDiff, Nat.reduceSub, Nat.reduceLT, Int.reduceToNat, Int.reduceLT, Int.reduceLE, reduceCtorEq, Nat.zero_add, Nat.add_zero, and_self, and_true, true_and, ne_eq, not_false_eq_true, not_true_eq_false, decide_true, decide_false, Bool.false_eq_true, Bool.not_true, Bool.not_false, Bool.true_and, Bool.and_true, Bool.or_false, Bool.false_or, Bool.and_self]; done) | rfl) ?_
          try simp only [go_sem, Int.reduceTMod, Int.reduceTDiv, Int.reduceDiv, Int.reduceMod, Int.reduceAdd, Int.reduceSub, Int.reduceMul, Int.reduceNeg, Int.reducePow, Int.reduceEq, bne_iff_ne, Int.cast_ofNat_Int, ↓reduceIte, Nat.reduceEqDiff, Nat.reduceAdd, Nat.reduceMul, Nat.reduceLeDiff, Nat.reduceSub, Nat.reduceLT, Int.reduceToNat, Int.reduceLT, Int.reduceLE, reduceCtorEq, Nat.zero_add, Nat.add_zero, and_self, and_true, true_and, ne_eq, not_false_eq_true, not_true_eq_false, decide_true, decide_false, Bool.false_eq_true, Bool.not_true, Bool.not_false, Bool.true_and, Bool.and_true, Bool.or_false, Bool.false_or, Bool.and_self]
          refine Fn.mono (hhal) ?_
          rintro _ _ _ rfl
          refine ⟨rfl, ?_⟩
          try simp only [hw2, r34_14, List.replicate, h1, go_sem, Int.reduceTMod, Int.reduceTDiv, Int.reduceDiv, Int.reduceMod, Int.reduceAdd, Int.reduceSub, Int.reduceMul, Int.reduceNeg, Int.reducePow, Int.reduceEq, bne_iff_ne, Int.cast_ofNat_Int, ↓reduceIte, Nat.reduceEqDiff, Nat.reduceAdd, Nat.reduceMul, Nat.reduceLeDiff, Nat.reduceSub, Nat.reduceLT, Int.reduceToNat, Int.reduceLT, Int.reduceLE, reduceCtorEq, Nat.zero_add, Nat.add_zero, and_self, and_true, true_and, ne_eq, not_false_eq_true, not_true_eq_false, decide_true, decide_false, Bool.false_eq_true, Bool.not_true, Bool.not_false, Bool.true_and, Bool.and_true, Bool.or_false, Bool.false_or, Bool.and_self]
          refine fin _ ?_ ?_ <;> simp only [go_sem, Int.reduceTMod, Int.reduceTDiv, Int.reduceDiv, Int.reduceMod, Int.reduceAdd, Int.reduceSub, Int.reduceMul, Int.reduceNeg, Int.reducePow, Int.reduceEq, bne_iff_ne, Int.cast_ofNat_Int, ↓reduceIte, Nat.reduceEqDiff, Nat.reduceAdd, Nat.reduceMul, Nat.reduceLeDiff, Nat.reduceSub, Nat.reduceLT, Int.reduceToNat, Int.reduceLT, Int.reduceLE, reduceCtorEq, Nat.zero_add, Nat.add_zero, and_self, and_true, true_and, ne_eq, not_false_eq_true, not_true_eq_false, decide_true, decide_false, Bool.false_eq_true, Bool.not_true, Bool.not_false, Bool.true_and, Bool.and_true, Bool.or_false, Bool.false_or, Bool.and_self]

/-- curve.Flat of a curve. -/
theorem Flat38 (v : Cv) (r : Reg) (d : Nat) (m : Mem) (n : Nat) (hr : RP m n r v.pts) (hv : v.inP = true) (hd : d ≤ 6) :
    Fn TA 34 [r, RI d] m n (fun r' m' n' => ∃ rs, r' = .tup [rs, RI 0] ∧ n ≤ n' ∧ (∀ id, id < n → m' id = m id) ∧ Ow n m' n' rs (encP (flat d v)) (flat d v).length 2) := by
  have hlen : v.pts.length = 3 ∨ v.pts.length = 4 := by cases v <;> simp [Cv.pts]
  have hall : v.pts.all inP = true := by
    have : v.pts.all inP = v.inP := by cases v <;> simp [Cv.pts, Cv.inP, Bool.and_assoc]
    rw [this, hv]
  refine Fn_of (fn := F34) rfl (by simp [F34]) ?_
  have hd0 : ¬ ((d : Int) < 0) := by omega
  have hd1 : ¬ ((6 : Int) < (d : Int)) := by omega
  simp only [F34, c34, r34_0, r34_1, go_sem, Int.reduceTMod, Int.reduceTDiv, Int.reduceDiv, Int.reduceMod, Int.reduceAdd, Int.reduceSub, Int.reduceMul, Int.reduceNeg, Int.reducePow, Int.reduceEq, bne_iff_ne, Int.cast_ofNat_Int, ↓reduceIte, Nat.reduceEqDiff, Nat.reduceAdd, Nat.reduceMul, Nat.reduceLeDiff, Nat.reduceSub, Nat.reduceLT, Int.reduceToNat, Int.reduceLT, Int.reduceLE, reduceCtorEq, Nat.zero_add, Nat.add_zero, and_self, and_true, true_and, ne_eq, not_false_eq_true, not_true_eq_false, decide_true, decide_false, Bool.false_eq_true, Bool.not_true, Bool.not_false, Bool.true_and, Bool.and_true, Bool.or_false, Bool.false_or, Bool.and_self]
  refine R_callq ?_
  simp only [go_sem, Int.reduceTMod, Int.reduceTDiv, Int.reduceDiv, Int.reduceMod, Int.reduceAdd, Int.reduceSub, Int.reduceMul, Int.reduceNeg, Int.reducePow, Int.reduceEq, bne_iff_ne, Int.cast_ofNat_Int, ↓reduceIte, Nat.reduceEqDiff, Nat.reduceAdd, Nat.reduceMul, Nat.reduceLeDiff, Nat.reduceSub, Nat.reduceLT, Int.reduceToNat, Int.reduceLT, Int.reduceLE, reduceCtorEq, Nat.zero_add, Nat.add_zero, and_self, and_true, true_and, ne_eq, not_false_eq_true, not_true_eq_false, decide_true, decide_false, Bool.false_eq_true, Bool.not_true, Bool.not_false, Bool.true_and, Bool.and_true, Bool.or_false, Bool.false_or, Bool.and_self]
  refine (check59 r v.pts _ _ hr.frz (by omega)).mono ?_
  rintro _ _ _ rfl
  refine ⟨rfl, ?_⟩
  rw [if_pos ⟨hall, hlen⟩]
  simp only [r34_2, r34_4, hd0, hd1, r34_6, r34_7, go_sem, Int.reduceTMod, Int.reduceTDiv, Int.reduceDiv, Int.reduceMod, Int.reduceAdd, Int.reduceSub, Int.reduceMul, Int.reduceNeg, Int.reducePow, Int.reduceEq, bne_iff_ne, Int.cast_ofNat_Int, ↓reduceIte, Nat.reduceEqDiff, Nat.reduceAdd, Nat.reduceMul, Nat.reduceLeDiff, Nat.reduceSub, Nat.reduceLT, Int.reduceToNat, Int.reduceLT, Int.reduceLE, reduceCtorEq, Nat.zero_add, Nat.add_zero, and_self, and_true, true_and, ne_eq, not_false_eq_true, not_true_eq_false, decide_true, decide_false, Bool.false_eq_true, Bool.not_true, Bool.not_false, Bool.true_and, Bool.and_true, Bool.or_false, Bool.false_or, Bool.and_self]
  refine R_callq ?_
  simp only [go_sem, Int.reduceTMod, Int.reduceTDiv, Int.reduceDiv, Int.reduceMod, Int.reduceAdd, Int.reduceSub, Int.reduceMul, Int.reduceNeg, Int.reducePow, Int.reduceEq, bne_iff_ne, Int.cast_ofNat_Int, ↓reduceIte, Nat.reduceEqDiff, Nat.reduceAdd, Nat.reduceMul, Nat.reduceLeDiff, Nat.reduceSub, Nat.reduceLT, Int.reduceToNat, Int.reduceLT, Int.reduceLE, reduceCtorEq, Nat.zero_add, Nat.add_zero, and_self, and_true, true_and, ne_eq, not_false_eq_true, not_true_eq_false, decide_true, decide_false, Bool.false_eq_true, Bool.not_true, Bool.not_false, Bool.true_and, Bool.and_true, Bool.or_false, Bool.false_or, Bool.and_self]
  refine (rowOf60 v r _ _ hr.frz).mono ?_
  rintro _ _ _ rfl
  have hfl : (Reg.agg v.row).flat = true := by cases v <;> rfl
  refine ⟨hfl, ?_⟩
  have hpw : (2 : Nat) ^ d ≤ 64 := by
    have : (2 : Nat) ^ d ≤ 2 ^ 6 := Nat.pow_le_pow_right (by omega) hd
    omega
  have fin : ∀ (e : Nat → Reg) (m1 : Mem), m1 = upd m n (some ⟨v.row ++ [I d], true⟩) → e 7 = rnil → e 8 = .one (.sl n 0 1 (some 1) 10) →
      X TA (.loop l34_0) ⟨e, m1, n + 1⟩ (fun e s' => e = .x 0 ∧ n ≤ s'.n ∧ (∀ id, id < n → s'.m id = m id) ∧ Ow n s'.m s'.n (s'.e 7) (encP (flat d v)) (flat d v).length 2) := by
    intro e m1 hm1 h7 h8
    subst hm1
    refine flatLoop n m (flat d v) _ [(v, d)] [] _ (Nat.le_refl _) ?_
    simp only [h7, h8]
    refine ⟨Nat.le_succ _, fun id hi => upd_ne _ _ (Nat.ne_of_lt hi), Or.inl ⟨rfl, rfl, rfl⟩, ⟨n, some 1, _, rfl, Nat.le_refl _, Nat.lt_succ_self _, upd_same _ _ _, rfl, ?_, by simp [sid], Or.inr ⟨rfl, by simp⟩⟩, ?_, ?_, ?_⟩
    · have hl : (v.row ++ [I (d : Int)]).length = 10 := encW10 (v, d)
      unfold rd
      rw [upd_same]
      simp only [List.length_cons, List.length_nil, encW, List.flatMap_cons, List.flatMap_nil, List.append_nil, List.drop_zero]
      rw [if_pos (by rw [hl]; exact Nat.le_refl _), List.take_of_length_le (by rw [hl]; exact Nat.le_refl _)]
    · intro x hx
      simp only [List.mem_cons, List.not_mem_nil, or_false] at hx
      subst hx
      exact ⟨hv, hd⟩
    · simp [goes]
    · simp [outs]; exact hpw
  cases v with
  | quad a b c =>
    simp only [List.replicate, Cv.row, go_sem, Int.reduceTMod, Int.reduceTDiv, Int.reduceDiv, Int.reduceMod, Int.reduceAdd, Int.reduceSub, Int.reduceMul, Int.reduceNeg, Int.reducePow, Int.reduceEq, bne_iff_ne, Int.cast_ofNat_Int, ↓reduceIte, Nat.reduceEqDiff, Nat.reduceAdd, Nat.reduceMul, Nat.reduceLeDiff, Nat.reduceSub, Nat.reduceLT, Int.reduceToNat, Int.reduceLT, Int.reduceLE, reduceCtorEq, Nat.zero_add, Nat.add_zero, and_self, and_true, true_and, ne_eq, not_false_eq_true, not_true_eq_false, decide_true, decide_false, Bool.false_eq_true, Bool.not_true, Bool.not_false, Bool.true_and, Bool.and_true, Bool.or_false, Bool.false_or, Bool.and_self]
    refine (fin _ _ (by simp only [Cv.row, List.cons_append, List.nil_append]) (by simp only [go_sem, Int.reduceTMod, Int.reduceTDiv, Int.reduceDiv, Int.reduceMod, Int.reduceAdd, Int.reduceSub, Int.reduceMul, Int.reduceNeg, Int.reducePow, Int.reduceEq, bne_iff_ne, Int.cast_ofNat_Int, ↓reduceIte, Nat.reduceEqDiff, Nat.reduceAdd, Nat.reduceMul, Nat.reduceLeDiff, Nat.reduceSub, Nat.reduceLT, Int.reduceToNat, Int.reduceLT, Int.reduceLE, reduceCtorEq, Nat.zero_add, Nat.add_zero, and_self, and_true, true_and, ne_eq, not_false_eq_true, not_true_eq_false, decide_true, decide_false, Bool.false_eq_true, Bool.not_true, Bool.not_false, Bool.true_and, Bool.and_true, Bool.or_false, Bool.false_or, Bool.and_self]) (by simp only [go_sem, Int.reduceTMod, Int.reduceTDiv, Int.reduceDiv, Int.reduceMod, Int.reduceAdd, Int.reduceSub, Int.reduceMul, Int.reduceNeg, Int.reducePow, Int.reduceEq, bne_iff_ne, Int.cast_ofNat_Int, ↓reduceIte, Nat.reduceEqDiff, Nat.reduceAdd, Nat.reduceMul, Nat.reduceLeDiff, Nat.reduceSub, Nat.reduceLT, Int.reduceToNat, Int.reduceLT, Int.reduceLE, reduceCtorEq, Nat.zero_add, Nat.add_zero, and_self, and_true, true_and, ne_eq, not_false_eq_true, not_true_eq_false, decide_true, decide_false, Bool.false_eq_true, Bool.not_true, Bool.not_false, Bool.true_and, Bool.and_true, Bool.or_false, Bool.false_or, Bool.and_self])).mono fun e s' h => ?_
    obtain ⟨rfl, h1, h2, h3⟩ := h
    simp only [r34_15, go_sem, Int.reduceTMod, Int.reduceTDiv, Int.reduceDiv, Int.reduceMod, Int.reduceAdd, Int.reduceSub, Int.reduceMul, Int.reduceNeg, Int.reducePow, Int.reduceEq, bne_iff_ne, Int.cast_ofNat_Int, ↓reduceIte, Nat.reduceEqDiff, Nat.reduceAdd, Nat.reduceMul, Nat.reduceLeDiff, Nat.reduceSub, Nat.reduceLT, Int.reduceToNat, Int.reduceLT, Int.reduceLE, reduceCtorEq, Nat.zero_add, Nat.add_zero, and_self, and_true, true_and, ne_eq, not_false_eq_true, not_true_eq_false, decide_true, decide_false, Bool.false_eq_true, Bool.not_true, Bool.not_false, Bool.true_and, Bool.and_true, Bool.or_false, Bool.false_or, Bool.and_self]
    exact ⟨_, rfl, h1, h2, h3⟩
  | cub a b c e =>
    simp only [List.replicate, Cv.row, go_sem, Int.reduceTMod, Int.reduceTDiv, Int.reduceDiv, Int.reduceMod, Int.reduceAdd, Int.reduceSub, Int.reduceMul, Int.reduceNeg, Int.reducePow, Int.reduceEq, bne_iff_ne, Int.cast_ofNat_Int, ↓reduceIte, Nat.reduceEqDiff, Nat.reduceAdd, Nat.reduceMul, Nat.reduceLeDiff, Nat.reduceSub, Nat.reduceLT, Int.reduceToNat, Int.reduceLT, Int.reduceLE, reduceCtorEq, Nat.zero_add, Nat.add_zero, and_self, and_true, true_and, ne_eq, not_false_eq_true, not_true_eq_false, decide_true, decide_false, Bool.false_eq_true, Bool.not_true, Bool.not_false, Bool.true_and, Bool.and_true, Bool.or_false, Bool.false_or, Bool.and_self]
    refine (fin _ _ (by simp only [Cv.row, List.cons_append, List.nil_append]) (by simp only [go_sem, Int.reduceTMod, Int.reduceTDiv, Int.reduceDiv, Int.reduceMod, Int.reduceAdd, Int.reduceSub, Int.reduceMul, Int.reduceNeg, Int.reducePow, Int.reduceEq, bne_iff_ne, Int.cast_ofNat_Int, ↓reduceIte, Nat.reduceEqDiff, Nat.reduceAdd, Nat.reduceMul, Nat.reduceLeDiff, Nat.reduceSub, Nat.reduceLT, Int.reduceToNat, Int.reduceLT, Int.reduceLE, reduceCtorEq, Nat.zero_add, Nat.add_zero, and_self, and_true, true_and, ne_eq, not_false_eq_true, not_true_eq_false, decide_true, decide_false, Bool.false_eq_true, Bool.not_true, Bool.not_false, Bool.true_and, Bool.and_true, Bool.or_false, Bool.false_or, Bool.and_self]) (by simp only [go_sem, Int.reduceTMod, Int.reduceTDiv, Int.reduceDiv, Int.reduceMod, Int.reduceAdd, Int.reduceSub, Int.reduceMul, Int.reduceNeg, Int.reducePow, Int.reduceEq, bne_iff_ne, Int.cast_ofNat_Int, ↓reduceIte, Nat.reduceEqDiff, Nat.reduceAdd, Nat.reduceMul, Nat.reduceLeDiff, Nat.reduceSub, Nat.reduceLT, Int.reduceToNat, Int.reduceLT, Int.reduceLE, reduceCtorEq, Nat.zero_add, Nat.add_zero, and_self, and_true, true_and, ne_eq, not_false_eq_true, not_true_eq_false, decide_true, decide_false, Bool.false_eq_true, Bool.not_true, Bool.not_false, Bool.true_and, Bool.and_true, Bool.or_false, Bool.false_or, Bool.and_self])).mono fun e s' h => ?_
    obtain ⟨rfl, h1, h2, h3⟩ := h
    simp only [r34_15, go_sem, Int.reduceTMod, Int.reduceTDiv, Int.reduceDiv, Int.reduceMod, Int.reduceAdd, Int.reduceSub, Int.reduceMul, Int.reduceNeg, Int.reducePow, Int.reduceEq, bne_iff_ne, Int.cast_ofNat_Int, ↓reduceIte, Nat.reduceEqDiff, Nat.reduceAdd, Nat.reduceMul, Nat.reduceLeDiff, Nat.reduceSub, Nat.reduceLT, Int.reduceToNat, Int.reduceLT, Int.reduceLE, reduceCtorEq, Nat.zero_add, Nat.add_zero, and_self, and_true, true_and, ne_eq, not_false_eq_true, not_true_eq_false, decide_true, decide_false, Bool.false_eq_true, Bool.not_true, Bool.not_false, Bool.true_and, Bool.and_true, Bool.or_false, Bool.false_or, Bool.and_self]
    exact ⟨_, rfl, h1, h2, h3⟩

end Go.Proofs.YtpleidpbapgmiaaDoor.Sy.Cu

/- The subpaths of a path, segment by segment. Conditions: those that each theorem names. -/
namespace Go.Proofs.YtpleidpbapgmiaaDoor.Sy
open Go Go.Proofs
set_option linter.unusedSimpArgs false
set_option linter.unusedVariables false

structure Sb where
  L : List Pt
  c : Bool
def modL (f : Sb → Sb) : List Sb → List Sb
  | [] => []
  | [x] => [f x]
  | x :: y :: l => x :: modL f (y :: l)
theorem modL_snoc (f : Sb → Sb) (a : List Sb) (x : Sb) : modL f (a ++ [x]) = a ++ [f x] := by
  induction a with
  | nil => rfl
  | cons b a ih =>
    cases a with
    | nil => rfl
    | cons b' a' =>
      show b :: modL f (b' :: (a' ++ [x])) = _
      rw [show b' :: (a' ++ [x]) = (b' :: a') ++ [x] from rfl, ih]
      rfl
theorem snoc_of {α : Type} {o : List α} (h : o ≠ []) : ∃ a x, o = a ++ [x] := ⟨o.dropLast, o.getLast h, (List.dropLast_concat_getLast h).symm⟩
def cvOf (fr : Pt) (s : Sg) : Cu.Cv := if s.k = 3 then .quad fr s.a s.b else .cub fr s.a s.b s.c
def subF (d : Nat) (fr : Pt) (s : Sg) (x : Sb) : Sb := if s.k = 5 then ⟨x.L, true⟩ else if s.k = 2 then ⟨x.L ++ [s.a], x.c⟩ else ⟨x.L ++ Cu.flat d (cvOf fr s), x.c⟩
def stepF (d : Nat) (fr : Pt) (s : Sg) (o : List Sb) : List Sb := if s.k = 1 then o ++ [⟨[s.a], false⟩] else modL (subF d fr s) o
def nxtP (fr : Pt) (s : Sg) : Pt := if need s.k = 0 then fr else ptJ s ((need s.k).toNat - 1)
def stF (d : Nat) (st : Pt × List Sb) (s : Sg) : Pt × List Sb := (nxtP st.1 s, stepF d st.1 s st.2)
def stI (d : Nat) (l : List Sg) (i : Nat) : Pt × List Sb := (l.take i).foldl (stF d) (⟨0, 0⟩, [])
theorem stI_succ {d : Nat} {l : List Sg} {i : Nat} {s : Sg} (h : l[i]? = some s) : stI d l (i + 1) = stF d (stI d l i) s := by
  unfold stI
  rw [take_snoc h, List.foldl_append]
  rfl
theorem chkS_zero {op : Bool} {s : Sg} (h : chkS op s = 0) : badK op s = false ∧ badU s = false ∧ badR s = false := by
  unfold chkS at h
  split at h
  · cases h
  · rename_i h1
    split at h
    · cases h
    · rename_i h2
      split at h
      · cases h
      · rename_i h3
        exact ⟨by simpa using h1, by simpa using h2, by simpa using h3⟩
theorem badK_false {op : Bool} {s : Sg} (h : badK op s = false) : 1 ≤ s.k ∧ s.k ≤ 5 ∧ (op = true ∨ s.k = 1) := by
  simp only [badK, Bool.or_eq_false_iff, decide_eq_false_iff_not, Bool.and_eq_false_iff, Bool.not_eq_false', decide_eq_true_eq] at h
  obtain ⟨⟨h1, h2⟩, h3⟩ := h
  exact ⟨by omega, by omega, h3⟩
theorem need_pos {k : Int} (h1 : 1 ≤ k) (h5 : k < 5) : 1 ≤ need k := by
  have : k = 1 ∨ k = 2 ∨ k = 3 ∨ k = 4 := by omega
  rcases this with rfl | rfl | rfl | rfl <;> decide
def Open (d : Nat) (l : List Sg) (i : Nat) : Prop := (stI d l i).2 ≠ [] ∧ ∃ q, 0 < i ∧ l[i - 1]? = some q ∧ 1 ≤ need q.k ∧ (stI d l i).1 = ptJ q ((need q.k).toNat - 1) ∧ inP (stI d l i).1 = true
theorem run_op {d : Nat} {l : List Sg} (hk : chkL false l = 0) : ∀ i, i ≤ l.length → ∃ op, chkL op (l.drop i) = 0 ∧ (op = true → Open d l i)
  | 0, _ => ⟨false, by rw [List.drop_zero]; exact hk, fun h => by cases h⟩
  | i + 1, hi => by
    obtain ⟨op, h1, h2⟩ := run_op (d := d) hk i (by omega)
    have hs : l[i]? = some (l[i]'(by omega)) := List.getElem?_eq_getElem (by omega)
    rw [chkL_at hs] at h1
    have hsu := stI_succ (d := d) hs
    generalize l[i] = s at *
    have h0 : chkS op s = 0 := by
      split at h1
      · assumption
      · exact h1
    rw [if_pos h0] at h1
    obtain ⟨hK, _, hR⟩ := chkS_zero h0
    obtain ⟨k1, k5, k6⟩ := badK_false hK
    refine ⟨_, h1, fun hop => ?_⟩
    have hne5 : s.k ≠ 5 := by simpa using hop
    have hn := need_pos k1 (by omega)
    unfold Open
    rw [hsu]
    have hfr : (stF d (stI d l i) s).1 = ptJ s ((need s.k).toNat - 1) := by
      simp only [stF, nxtP]
      rw [if_neg (by omega)]
    refine ⟨?_, s, by omega, by rw [Nat.add_sub_cancel]; exact hs, hn, hfr, ?_⟩
    · simp only [stF, stepF]
      split
      · simp
      · rename_i h
        obtain ⟨a, x, e⟩ := snoc_of (h2 (k6.resolve_right h)).1
        rw [e, modL_snoc]
        simp
    · rw [hfr]
      have hm := mem_pts (s := s) (j := (need s.k).toNat - 1) (by omega)
      have e6 : (s.pts.take (need s.k).toNat).all inP = true := by simpa [badR] using hR
      exact List.all_eq_true.1 e6 _ hm
theorem ahead {d : Nat} {l : List Sg} (hk : chkP l = 0) {i : Nat} {s : Sg} (hs : l[i]? = some s) : 1 ≤ s.k ∧ s.k ≤ 5 ∧ (s.pts.take (need s.k).toNat).all inP = true ∧ (s.k ≠ 1 → Open d l i) := by
  have hk' : chkL false l = 0 := by
    unfold chkP at hk
    split at hk
    · cases hk
    · exact hk
  have hi : i < l.length := (List.getElem?_eq_some_iff.1 hs).1
  obtain ⟨op, h1, h2⟩ := run_op (d := d) hk' i (by omega)
  rw [chkL_at hs] at h1
  have h0 : chkS op s = 0 := by
    split at h1
    · assumption
    · exact h1
  obtain ⟨hK, _, hR⟩ := chkS_zero h0
  obtain ⟨k1, k5, k6⟩ := badK_false hK
  exact ⟨k1, k5, by simpa [badR] using hR, fun h => h2 (k6.resolve_right h)⟩
theorem modL_mem {f : Sb → Sb} {o : List Sb} {y : Sb} (h : y ∈ modL f o) : y ∈ o ∨ ∃ x, x ∈ o ∧ y = f x := by
  by_cases he : o = []
  · subst he; simp [modL] at h
  · obtain ⟨a, x, rfl⟩ := snoc_of he
    rw [modL_snoc, List.mem_append, List.mem_singleton] at h
    rcases h with h | h
    · exact Or.inl (by simp [h])
    · exact Or.inr ⟨x, by simp, h⟩
theorem stI_len {d : Nat} (hd : d ≤ 6) {l : List Sg} : ∀ i, i ≤ l.length → (stI d l i).2.length ≤ i ∧ ∀ x ∈ (stI d l i).2, x.L.length ≤ i * 64
  | 0, _ => ⟨by simp [stI], fun x hx => by simp [stI] at hx⟩
  | i + 1, hi => by
    obtain ⟨h1, h2⟩ := stI_len (l := l) hd i (by omega)
    have hs : l[i]? = some (l[i]'(by omega)) := List.getElem?_eq_getElem (by omega)
    have hsu := stI_succ (d := d) hs
    generalize l[i]'(by omega) = s at *
    rw [hsu]
    simp only [stF, stepF]
    have hpw : (2 : Nat) ^ d ≤ 64 := by
      have : (2 : Nat) ^ d ≤ 2 ^ 6 := Nat.pow_le_pow_right (by omega) hd
      omega
    split
    · refine ⟨?_, fun x hx => ?_⟩
      · rw [List.length_append]
        simp only [List.length_cons, List.length_nil]
        omega
      rw [List.mem_append, List.mem_singleton] at hx
      rcases hx with hx | rfl
      · have := h2 x hx; omega
      · simp; omega
    · refine ⟨?_, fun x hx => ?_⟩
      · by_cases he : (stI d l i).2 = []
        · rw [he]; simp [modL]
        · obtain ⟨a, y, e⟩ := snoc_of he
          rw [e, modL_snoc]
          rw [e] at h1
          simp at h1 ⊢
          omega
      · rcases modL_mem hx with hx | ⟨y, hy, rfl⟩
        · have := h2 x hx; omega
        · have := h2 y hy
          unfold subF
          split
          · simp only; omega
          · split
            · simp only [List.length_append, List.length_cons, List.length_nil]; omega
            · simp only [List.length_append, Cu.flat_length]; omega
end Go.Proofs.YtpleidpbapgmiaaDoor.Sy

/- Curves: lists of the reference, and what is the same. Conditions: those that each theorem names. -/
namespace Go.Proofs.YtpleidpbapgmiaaDoor.Sy.Cu
open Go Go.Proofs
set_option linter.unusedSimpArgs false
set_option linter.unusedVariables false
attribute [local go_sem] R_nil R_mv R_pick R_alloc R_box R_build R_bslice R_load1 R_loadA R_store R_nilchk R_bin R_beq R_eqv R_eqnil R_un R_conv R_mkfn R_mkslice R_slS R_slA R_fadr R_fld R_iadrA R_iadrS R_idxA R_ext R_len R_lenC R_cap R_app R_appz R_pre R_cpy R_mn R_mx
  noId Bool.false_or evalOp evO evOs upd_upd upd_at unfrz_at putE_some putE_none Then_some X_seq X_reg X_dreg X_ureg X_ret X_skip X_exit X_block X_condK condK_bool Next_n Next_x Next_r Out_n Out_x Out_r Ret_n Ret_r
  bin_shr1 bin_add bin_sub bin_mul bin_lss bin_leq bin_gtr bin_geq bin_eql bin_neq un_not un_neg boolOf_b boolOf_tup R_guard Option.map_some evRes pack_one pack_two pack_three pack_none List.getD_cons_zero List.getD_cons_succ getD_nil
  Option.some.injEq exists_eq_left' Reg.cs? fillC setL List.set_cons_zero List.set_cons_succ List.length_cons List.length_nil rd_upd rdB wr List.drop_zero List.drop_succ_cons List.take_succ_cons List.take_zero List.getElem?_cons_zero List.getElem?_cons_succ
  ix Int.toNat_zero lenO_sl lenO_nil sn1 ns1 sn2 ns2 sn3 ns3 sn4 ns4 sn5 ns5 sn6 ns6 sn7 ns7 sn8 ns8 sn9 ns9 sn10 ns10 sn11 ns11 sn12 ns12 sk1_2 sk1_3 sk1_4 sk1_5 sk1_6 sk1_7 sk1_8 sk2_1 sk2_3 sk2_4 sk2_5 sk2_6 sk2_7 sk2_8 sk3_1 sk3_2 sk3_4 sk3_5 sk3_6 sk3_7 sk3_8 sk4_1 sk4_2 sk4_3 sk4_5 sk4_6 sk4_7 sk4_8 sk5_1 sk5_2 sk5_3 sk5_4 sk5_6 sk5_7 sk5_8 sk6_1 sk6_2 sk6_3 sk6_4 sk6_5 sk6_7 sk6_8 sk7_1 sk7_2 sk7_3 sk7_4 sk7_5 sk7_6 sk7_8 sk8_1 sk8_2 sk8_3 sk8_4 sk8_5 sk8_6 sk8_7

theorem Ow.lt {base : Nat} {m : Mem} {n : Nat} {r : Reg} {cs : List Cell} {len sz i : Nat} (h : Ow base m n r cs len sz) (hi : sid r = some i) : base ≤ i ∧ i < n := by
  rcases h with ⟨h, _⟩ | ⟨j, h, h1, h2, _⟩
  · rw [h] at hi; cases hi
  · rw [h] at hi; simp only [sid, Option.some.injEq] at hi; subst hi; exact ⟨h1, h2⟩

/-- One point more on an owned list. -/
theorem push {base n N : Nat} {m M : Mem} {r : Reg} {acc : List Pt} {p : Pt} {j by' : Nat} {o : Bool} (ho : Ow base m n r (encP acc) acc.length 2) (hN : n ≤ N) (hb : base ≤ n) (hM : ∀ i, i < n → M i = m i) (hj : M j = some ⟨p.cs, o⟩) (hsm : acc.length + 1 ≤ 4294967296) :
    ∃ m', evApp M N 2 by' r (.one (.sl j 0 1 (some 1) 2)) = some (.one (.sl N 0 (acc.length + 1) none 2), m', N + 1) ∧ Ow base m' (N + 1) (.one (.sl N 0 (acc.length + 1) none 2)) (encP (acc ++ [p])) (acc ++ [p]).length 2 ∧ ∀ i, i ≠ N → sid r ≠ some i → m' i = M i := by
  have hk : Ow base M N r (encP acc) acc.length 2 := ho.keep hN (fun i hi => hM i (ho.lt hi).2)
  obtain ⟨m', h1, h2, h3⟩ := Ow.app (by' := by') hk (by omega) (show newsOf M 2 (.one (.sl j 0 1 (some 1) 2)) = some (1, p.cs) by simp [newsOf, Sy.rd, hj]) (by omega) (by omega) rfl
  refine ⟨m', h1, ?_, fun i q1 q2 => h3 i q1 (fun id hid e => q2 (by rw [hid, e]))⟩
  have e1 : encP (acc ++ [p]) = encP acc ++ p.cs := by simp [encP]
  rw [e1, List.length_append]
  exact h2

theorem RP.keep' {m m' : Mem} {n n' : Nat} {r : Reg} {l : List Pt} (h : RP m n r l) (hn : n ≤ n') (hm : ∀ id, sid r = some id → m' id = m id) : RP m' n' r l := by
  rcases h with h | ⟨id, off, cap, h1, h2, h3⟩
  · exact Or.inl h
  · refine Or.inr ⟨id, off, cap, h1, by omega, ?_⟩
    have : Sy.rd m' id off (l.length * 2) = Sy.rd m id off (l.length * 2) := by unfold Sy.rd; rw [hm id (by rw [h1]; rfl)]
    rw [this]; exact h3
theorem RP.lt {m : Mem} {n : Nat} {r : Reg} {l : List Pt} (h : RP m n r l) {i : Nat} (hi : sid r = some i) : i < n := by
  rcases h with ⟨h, _⟩ | ⟨id, off, cap, h1, h2, h3⟩
  · rw [h] at hi; cases hi
  · rw [h1] at hi; simp only [sid, Option.some.injEq] at hi; omega

end Go.Proofs.YtpleidpbapgmiaaDoor.Sy.Cu

/- Curves: the reference's halves. Conditions: those that each theorem names. -/
namespace Go.Proofs.YtpleidpbapgmiaaDoor.Sy.Cu
open Go Go.Proofs
set_option linter.unusedSimpArgs false
set_option linter.unusedVariables false
attribute [local go_sem] R_nil R_mv R_pick R_alloc R_box R_build R_bslice R_load1 R_loadA R_store R_nilchk R_bin R_beq R_eqv R_eqnil R_un R_conv R_mkfn R_mkslice R_slS R_slA R_fadr R_fld R_iadrA R_iadrS R_idxA R_ext R_len R_lenC R_cap R_app R_appz R_pre R_cpy R_mn R_mx
  noId Bool.false_or evalOp evO evOs upd_upd upd_at unfrz_at putE_some putE_none Then_some X_seq X_reg X_dreg X_ureg X_ret X_skip X_exit X_block X_condK condK_bool Next_n Next_x Next_r Out_n Out_x Out_r Ret_n Ret_r
  bin_shr1 bin_add bin_sub bin_mul bin_lss bin_leq bin_gtr bin_geq bin_eql bin_neq un_not un_neg boolOf_b boolOf_tup R_guard Option.map_some evRes pack_one pack_two pack_three pack_none List.getD_cons_zero List.getD_cons_succ getD_nil
  Option.some.injEq exists_eq_left' Reg.cs? fillC setL List.set_cons_zero List.set_cons_succ List.length_cons List.length_nil rd_upd rdB wr List.drop_zero List.drop_succ_cons List.take_succ_cons List.take_zero List.getElem?_cons_zero List.getElem?_cons_succ
  ix Int.toNat_zero lenO_sl lenO_nil sn1 ns1 sn2 ns2 sn3 ns3 sn4 ns4 sn5 ns5 sn6 ns6 sn7 ns7 sn8 ns8 sn9 ns9 sn10 ns10 sn11 ns11 sn12 ns12 sk1_2 sk1_3 sk1_4 sk1_5 sk1_6 sk1_7 sk1_8 sk2_1 sk2_3 sk2_4 sk2_5 sk2_6 sk2_7 sk2_8 sk3_1 sk3_2 sk3_4 sk3_5 sk3_6 sk3_7 sk3_8 sk4_1 sk4_2 sk4_3 sk4_5 sk4_6 sk4_7 sk4_8 sk5_1 sk5_2 sk5_3 sk5_4 sk5_6 sk5_7 sk5_8 sk6_1 sk6_2 sk6_3 sk6_4 sk6_5 sk6_7 sk6_8 sk7_1 sk7_2 sk7_3 sk7_4 sk7_5 sk7_6 sk7_8 sk8_1 sk8_2 sk8_3 sk8_4 sk8_5 sk8_6 sk8_7

theorem Below64 (x : Int) (h1 : -10000000000 ≤ x) (h2 : x ≤ 10000000000) (m : Mem) (n : Nat) : Fn TA 60 [RI x, RI 2] m n (fun r _ _ => r = RI (x / 2)) := by
  refine Fn_of (fn := F60) rfl (by simp [F60]) ?_
  have ht : x.tdiv 2 = if 0 ≤ x then x / 2 else -(-x / 2) := by
    split
    · exact Int.tdiv_eq_ediv_of_nonneg ‹_›
    · have := Int.neg_tdiv (-x) 2
      rw [Int.neg_neg] at this
      rw [this, Int.tdiv_eq_ediv_of_nonneg (by omega)]
  have hqq : x.tdiv 2 ≤ 10000000000 ∧ -10000000000 ≤ x.tdiv 2 := by rw [ht]; split <;> omega
  have hq : IntKind.i64.wrap (x.tdiv 2) = x.tdiv 2 := wr_eq (by omega) (by omega)
  have hm : IntKind.i64.wrap (x.tdiv 2 * 2) = x.tdiv 2 * 2 := wr_eq (by omega) (by omega)
  have hs : IntKind.i64.wrap (x.tdiv 2 - 1) = x.tdiv 2 - 1 := wr_eq (by omega) (by omega)
  have hh : IntKind.i64.wrap (x / 2) = x / 2 := wr_eq (by omega) (by omega)
  by_cases h : x < x.tdiv 2 * 2
  · have e : x.tdiv 2 - 1 = x / 2 := by rw [ht] at h ⊢; split at h <;> split <;> omega
    simp only [F60, c60, r60_0, r60_1, r60_2, bin_quo (show (2 : Int) ≠ 0 by decide), hq, hm, h, r60_3, e, hh, r60_4, go_sem, Int.reduceTMod, Int.reduceTDiv, Int.reduceDiv, Int.reduceMod, Int.reduceAdd, Int.reduceSub, Int.reduceMul, Int.reduceNeg, Int.reducePow, Int.reduceEq, bne_iff_ne, Int.cast_ofNat_Int, ↓reduceIte, Nat.reduceEqDiff, Nat.reduceAdd, Nat.reduceMul, Nat.reduceLeDiff, Nat.reduceSub, Nat.reduceLT, Int.reduceToNat, Int.reduceLT, Int.reduceLE, reduceCtorEq, Nat.zero_add, Nat.add_zero, and_self, and_true, true_and, ne_eq, not_false_eq_true, not_true_eq_false, decide_true, decide_false, Bool.false_eq_true, Bool.not_true, Bool.not_false, Bool.true_and, Bool.and_true, Bool.or_false, Bool.false_or, Bool.and_self]
  · have e : x.tdiv 2 = x / 2 := by rw [ht] at h ⊢; split at h <;> split <;> omega
    simp only [F60, c60, r60_0, r60_1, r60_2, bin_quo (show (2 : Int) ≠ 0 by decide), hq, hm, h, r60_4, go_sem, Int.reduceTMod, Int.reduceTDiv, Int.reduceDiv, Int.reduceMod, Int.reduceAdd, Int.reduceSub, Int.reduceMul, Int.reduceNeg, Int.reducePow, Int.reduceEq, bne_iff_ne, Int.cast_ofNat_Int, ↓reduceIte, Nat.reduceEqDiff, Nat.reduceAdd, Nat.reduceMul, Nat.reduceLeDiff, Nat.reduceSub, Nat.reduceLT, Int.reduceToNat, Int.reduceLT, Int.reduceLE, reduceCtorEq, Nat.zero_add, Nat.add_zero, and_self, and_true, true_and, ne_eq, not_false_eq_true, not_true_eq_false, decide_true, decide_false, Bool.false_eq_true, Bool.not_true, Bool.not_false, Bool.true_and, Bool.and_true, Bool.or_false, Bool.false_or, Bool.and_self]
    rw [e]

theorem Mid48 (p q : Pt) (hp : inP p = true) (hq : inP q = true) (m : Mem) (n : Nat) : Fn TA 46 [p.r, q.r] m n (fun r _ _ => r = (mid p q).r) := by
  refine Fn_of (fn := F46) rfl (by simp [F46]) ?_
  rw [inP_iff] at *
  have wx : IntKind.i64.wrap (p.x + q.x) = p.x + q.x := wr_eq (by omega) (by omega)
  have wy : IntKind.i64.wrap (p.y + q.y) = p.y + q.y := wr_eq (by omega) (by omega)
  simp only [F46, c46, r46_0, r46_1, wx, go_sem, Int.reduceTMod, Int.reduceTDiv, Int.reduceDiv, Int.reduceMod, Int.reduceAdd, Int.reduceSub, Int.reduceMul, Int.reduceNeg, Int.reducePow, Int.reduceEq, bne_iff_ne, Int.cast_ofNat_Int, ↓reduceIte, Nat.reduceEqDiff, Nat.reduceAdd, Nat.reduceMul, Nat.reduceLeDiff, Nat.reduceSub, Nat.reduceLT, Int.reduceToNat, Int.reduceLT, Int.reduceLE, reduceCtorEq, Nat.zero_add, Nat.add_zero, and_self, and_true, true_and, ne_eq, not_false_eq_true, not_true_eq_false, decide_true, decide_false, Bool.false_eq_true, Bool.not_true, Bool.not_false, Bool.true_and, Bool.and_true, Bool.or_false, Bool.false_or, Bool.and_self]
  refine R_callz (by first | (simp only [flats, Reg.flat, Cell.flat, List.all_cons, List.all_nil, Bool.and_self, go_sem, Int.reduceTMod, Int.reduceTDiv, Int.reduceDiv, Int.reduceMod, Int.reduceAdd, Int.reduceSub, Int.reduceMul, Int.reduceNeg, Int.reducePow, Int.reduceEq, bne_iff_ne, Int.cast_ofNat_Int, ↓reduceIte, Nat.reduceEqDiff, Nat.reduceAdd, Nat.reduceMul, Nat.reduceLeDiff, Nat.reduceSub, Nat.reduceLT, Int.reduceToNat, Int.reduceLT, Int.reduceLE, reduceCtorEq, Nat.zero_add, Nat.add_zero, and_self, and_true, true_and, ne_eq, not_false_eq_true, not_true_eq_false, decide_true, decide_false, Bool.false_eq_true, Bool.not_true, Bool.not_false, Bool.true_and, Bool.and_true, Bool.or_false, Bool.false_or, Bool.and_self]; done) | rfl) ?_
  try simp only [go_sem, Int.reduceTMod, Int.reduceTDiv, Int.reduceDiv, Int.reduceMod, Int.reduceAdd, Int.reduceSub, Int.reduceMul, Int.reduceNeg, Int.reducePow, Int.reduceEq, bne_iff_ne, Int.cast_ofNat_Int, ↓reduceIte, Nat.reduceEqDiff, Nat.reduceAdd, Nat.reduceMul, Nat.reduceLeDiff, Nat.reduceSub, Nat.reduceLT, Int.reduceToNat, Int.reduceLT, Int.reduceLE, reduceCtorEq, Nat.zero_add, Nat.add_zero, and_self, and_true, true_and, ne_eq, not_false_eq_true, not_true_eq_false, decide_true, decide_false, Bool.false_eq_true, Bool.not_true, Bool.not_false, Bool.true_and, Bool.and_true, Bool.or_false, Bool.false_or, Bool.and_self]
  refine Fn.mono (Below64 (p.x + q.x) (by omega) (by omega) _ _) ?_
  rintro _ _ _ rfl
  refine ⟨rfl, ?_⟩
  try simp only [wy, go_sem, Int.reduceTMod, Int.reduceTDiv, Int.reduceDiv, Int.reduceMod, Int.reduceAdd, Int.reduceSub, Int.reduceMul, Int.reduceNeg, Int.reducePow, Int.reduceEq, bne_iff_ne, Int.cast_ofNat_Int, ↓reduceIte, Nat.reduceEqDiff, Nat.reduceAdd, Nat.reduceMul, Nat.reduceLeDiff, Nat.reduceSub, Nat.reduceLT, Int.reduceToNat, Int.reduceLT, Int.reduceLE, reduceCtorEq, Nat.zero_add, Nat.add_zero, and_self, and_true, true_and, ne_eq, not_false_eq_true, not_true_eq_false, decide_true, decide_false, Bool.false_eq_true, Bool.not_true, Bool.not_false, Bool.true_and, Bool.and_true, Bool.or_false, Bool.false_or, Bool.and_self]
  refine R_callz (by first | (simp only [flats, Reg.flat, Cell.flat, List.all_cons, List.all_nil, Bool.and_self, go_sem, Int.reduceTMod, Int.reduceTDiv, Int.reduceDiv, Int.reduceMod, Int.reduceAdd, Int.reduceSub, Int.reduceMul, Int.reduceNeg, Int.reducePow, Int.reduceEq, bne_iff_ne, Int.cast_ofNat_Int, ↓reduceIte, Nat.reduceEqDiff, Nat.reduceAdd, Nat.reduceMul, Nat.reduceLeDiff, Nat.reduceSub, Nat.reduceLT, Int.reduceToNat, Int.reduceLT, Int.reduceLE, reduceCtorEq, Nat.zero_add, Nat.add_zero, and_self, and_true, true_and, ne_eq, not_false_eq_true, not_true_eq_false, decide_true, decide_false, Bool.false_eq_true, Bool.not_true, Bool.not_false, Bool.true_and, Bool.and_true, Bool.or_false, Bool.false_or, Bool.and_self]; done) | rfl) ?_
  try simp only [go_sem, Int.reduceTMod, Int.reduceTDiv, Int.reduceDiv, Int.reduceMod, Int.reduceAdd, Int.reduceSub, Int.reduceMul, Int.reduceNeg, Int.reducePow, Int.reduceEq, bne_iff_ne, Int.cast_ofNat_Int, ↓reduceIte, Nat.reduceEqDiff, Nat.reduceAdd, Nat.reduceMul, Nat.reduceLeDiff, Nat.reduceSub, Nat.reduceLT, Int.reduceToNat, Int.reduceLT, Int.reduceLE, reduceCtorEq, Nat.zero_add, Nat.add_zero, and_self, and_true, true_and, ne_eq, not_false_eq_true, not_true_eq_false, decide_true, decide_false, Bool.false_eq_true, Bool.not_true, Bool.not_false, Bool.true_and, Bool.and_true, Bool.or_false, Bool.false_or, Bool.and_self]
  refine Fn.mono (Below64 (p.y + q.y) (by omega) (by omega) _ _) ?_
  rintro _ _ _ rfl
  refine ⟨rfl, ?_⟩
  try simp only [mid, go_sem, Int.reduceTMod, Int.reduceTDiv, Int.reduceDiv, Int.reduceMod, Int.reduceAdd, Int.reduceSub, Int.reduceMul, Int.reduceNeg, Int.reducePow, Int.reduceEq, bne_iff_ne, Int.cast_ofNat_Int, ↓reduceIte, Nat.reduceEqDiff, Nat.reduceAdd, Nat.reduceMul, Nat.reduceLeDiff, Nat.reduceSub, Nat.reduceLT, Int.reduceToNat, Int.reduceLT, Int.reduceLE, reduceCtorEq, Nat.zero_add, Nat.add_zero, and_self, and_true, true_and, ne_eq, not_false_eq_true, not_true_eq_false, decide_true, decide_false, Bool.false_eq_true, Bool.not_true, Bool.not_false, Bool.true_and, Bool.and_true, Bool.or_false, Bool.false_or, Bool.and_self]

def mids : List Pt → List Pt
  | p :: q :: l => mid p q :: mids (q :: l)
  | _ => []
def firsts : Nat → List Pt → List Pt
  | 0, _ => []
  | k + 1, l => l.take 1 ++ firsts k (mids l)
def lasts : Nat → List Pt → List Pt
  | 0, _ => []
  | k + 1, l => lasts k (mids l) ++ l.drop (l.length - 1)
theorem mids_len : ∀ l : List Pt, (mids l).length = l.length - 1
  | [] => rfl
  | [_] => rfl
  | p :: q :: l => by rw [mids, List.length_cons, mids_len (q :: l)]; simp
theorem mids_at : ∀ (l : List Pt) (i : Nat) (h : i + 1 < l.length), (mids l)[i]? = some (mid (l[i]'(by omega)) l[i + 1])
  | [], i, h => by simp at h
  | [_], i, h => by simp at h
  | p :: q :: l, 0, h => rfl
  | p :: q :: l, i + 1, h => by
    have := mids_at (q :: l) i (by simpa using h)
    simpa [mids] using this
theorem mids_in : ∀ {l : List Pt}, l.all inP = true → (mids l).all inP = true
  | [], _ => rfl
  | [_], _ => rfl
  | p :: q :: l, h => by
    simp only [List.all_cons, Bool.and_eq_true] at h
    simp only [mids, List.all_cons, Bool.and_eq_true]
    exact ⟨inP_mid h.1 h.2.1, mids_in (by simp [h.2.1, h.2.2])⟩

/-- One point ahead of a list. -/
theorem pre {n N : Nat} {m M : Mem} {r : Reg} {b : List Pt} {p : Pt} {j by' : Nat} (hr : RP m n r b) (hn : n ≤ N) (hM : ∀ i, sid r = some i → M i = m i) (hj : M j = some ⟨p.cs, true⟩) (hjN : j < N) (hsm : b.length + 1 ≤ 4294967296) :
    ∃ r' m' N', evApp M N 2 by' (.one (.sl j 0 1 (some 1) 2)) r = some (r', m', N') ∧ N ≤ N' ∧ RP m' N' r' (p :: b) ∧ (∀ id, sid r' = some id → id = j ∨ id = N) ∧ ∀ i, i ≠ N → m' i = M i := by
  rcases hr.keep' hn hM with ⟨rfl, h2, h3⟩ | ⟨id, off, cap, rfl, h2, h3⟩
  · have hb : b = [] := List.length_eq_zero_iff.1 h2
    subst hb
    refine ⟨_, _, _, by simp [evApp, newsOf], Nat.le_refl _, Or.inr ⟨j, 0, some 1, rfl, hjN, ?_⟩, fun id h => ?_, fun _ _ => rfl⟩
    · simp [Sy.rd, hj, encP]
    · simp only [sid, Option.some.injEq] at h; exact Or.inl h.symm
  · have hpos : ¬ (1 + b.length ≤ 1) ∨ b.length = 0 := by omega
    rcases hpos with hpos | hz
    · refine ⟨.one (.sl N 0 (1 + b.length) none 2), upd M N (some ⟨p.cs ++ encP b, true⟩), N + 1, ?_, Nat.le_succ _, Or.inr ⟨N, 0, none, by rw [List.length_cons, Nat.add_comm], Nat.lt_succ_self _, ?_⟩, fun id h => ?_, fun i hi => upd_ne _ _ hi⟩
      · have h4 : 1 + b.length ≤ 4294967296 := by omega
        have h5 : b.length ≠ 0 := by omega
        have h6 : Sy.rd M j 0 2 = some p.cs := by simp [Sy.rd, hj]
        simp [evApp, newsOf, h3, h4, hpos, h6, h5]
      · have hl : (encP b).length = b.length * 2 := flatMap_len _ 2 cs2 b
        unfold Sy.rd
        rw [upd_same]
        simp only [Nat.zero_add, List.drop_zero]
        rw [if_pos (by simp [hl]; omega), List.take_of_length_le (by simp [hl]; omega)]
        rfl
      · simp only [sid, Option.some.injEq] at h; exact Or.inr h.symm
    · have hb : b = [] := List.length_eq_zero_iff.1 hz
      subst hb
      refine ⟨.one (.sl j 0 1 (some 1) 2), M, N, ?_, Nat.le_refl _, Or.inr ⟨j, 0, some 1, rfl, hjN, ?_⟩, fun id h => ?_, fun _ _ => rfl⟩
      · simp only [List.length_nil] at h3
        simp [evApp, newsOf, h3]
      · simp [Sy.rd, hj, encP]
      · simp only [sid, Option.some.injEq] at h; exact Or.inl h.symm

/-- The middles of a list's neighbours. -/
theorem inner46 (r : Reg) (l : List Pt) (n1 : Nat) (m1 : Mem) (hr : RP m1 n1 r l) (hl : l.length ≤ 1000000) (hin : l.all inP = true) (a b : Reg) : ∀ (k i : Nat) (e : Nat → Reg) (m : Mem) (n : Nat), i + k + 1 = l.length → e 0 = r → e 4 = a → e 5 = b → e 7 = RI i → n1 ≤ n → (∀ id, id < n1 → m id = m1 id) → Ow n1 m n (e 6) (encP ((mids l).take i)) ((mids l).take i).length 2 →
    X TA (.loop l47_0) ⟨e, m, n⟩ (fun e s' => e = .x 2 ∧ s'.e 0 = r ∧ s'.e 4 = a ∧ s'.e 5 = b ∧ n1 ≤ s'.n ∧ (∀ id, id < n1 → s'.m id = m1 id) ∧ Ow n1 s'.m s'.n (s'.e 6) (encP (mids l)) (mids l).length 2) := by
  obtain ⟨L, hL⟩ : ∃ L_, L_ = SC.loop l47_0 := ⟨_, rfl⟩
  have hX : ∀ s Q, X TA l47_0 s (Next Q (fun s_ => X TA L s_ Q)) → X TA L s Q := by subst hL; exact fun _ _ h => X_loop h
  rw [← hL]
  intro k
  induction k with
  | zero =>
    intro i e m n hi h0 h4 h5 h7 hn hold ho
    refine hX _ _ ?_
    have hw : IntKind.i64.wrap ((i : Int) + 1) = ((i + 1 : Nat) : Int) := wr_nat (by omega)
    have hlt : ¬ (((i + 1 : Nat) : Int) < (l.length : Int)) := by omega
    have hlen := Rd.len (Rd.keep hr hn hold)
    rw [List.take_of_length_le (by rw [mids_len]; omega)] at ho
    simp only [l47_0, r47_7, h7, hw, h0, hlen, hlt, go_sem, Int.reduceTMod, Int.reduceTDiv, Int.reduceDiv, Int.reduceMod, Int.reduceAdd, Int.reduceSub, Int.reduceMul, Int.reduceNeg, Int.reducePow, Int.reduceEq, bne_iff_ne, Int.cast_ofNat_Int, ↓reduceIte, Nat.reduceEqDiff, Nat.reduceAdd, Nat.reduceMul, Nat.reduceLeDiff, Nat.reduceSub, Nat.reduceLT, Int.reduceToNat, Int.reduceLT, Int.reduceLE, reduceCtorEq, Nat.zero_add, Nat.add_zero, and_self, and_true, true_and, ne_eq, not_false_eq_true, not_true_eq_false, decide_true, decide_false, Bool.false_eq_true, Bool.not_true, Bool.not_false, Bool.true_and, Bool.and_true, Bool.or_false, Bool.false_or, Bool.and_self]
    exact ⟨h4, h5, hn, hold, ho⟩
  | succ k ih =>
    intro i e m n hi h0 h4 h5 h7 hn hold ho
    refine hX _ _ ?_
    have hil : i + 1 < l.length := by omega
    have hw : IntKind.i64.wrap ((i : Int) + 1) = ((i + 1 : Nat) : Int) := wr_nat (by omega)
    have hlt : (((i + 1 : Nat) : Int) < (l.length : Int)) := by omega
    have hlt0 : (i : Int) < (l.length : Int) := by omega
    have h00 : (0 : Int) ≤ (i : Int) := by omega
    have h01 : (0 : Int) ≤ ((i + 1 : Nat) : Int) := by omega
    have hn1 : ((i + 1 : Nat) : Int).toNat = i + 1 := rfl
    obtain ⟨id, off, cap, rfl, hid, hrd⟩ := RP.sl (Rd.keep hr hn hold) (show i < l.length by omega)
    obtain ⟨id', off', cap', hsl, hid', hrd'⟩ := RP.sl (Rd.keep hr hn hold) hil
    cases hsl
    have hin1 : inP l[i] = true := List.all_eq_true.1 hin _ (List.getElem_mem _)
    have hin2 : inP l[i + 1] = true := List.all_eq_true.1 hin _ (List.getElem_mem _)
    have htk : (mids l).take (i + 1) = (mids l).take i ++ [mid l[i] l[i + 1]] := by rw [List.take_add_one, mids_at l i hil]; rfl
    have hlen : ((mids l).take i).length = i := by rw [List.length_take, mids_len]; omega
    obtain ⟨m', g1, g2, g3⟩ := push (N := n + 1) (M := upd m n (some ⟨(mid l[i] l[i + 1]).cs, true⟩)) (p := mid l[i] l[i + 1]) (j := n) (by' := 16) (o := true) ho (by omega) hn (fun j hj => by simp only [lt0 hj, go_sem, Int.reduceTMod, Int.reduceTDiv, Int.reduceDiv, Int.reduceMod, Int.reduceAdd, Int.reduceSub, Int.reduceMul, Int.reduceNeg, Int.reducePow, Int.reduceEq, bne_iff_ne, Int.cast_ofNat_Int, ↓reduceIte, Nat.reduceEqDiff, Nat.reduceAdd, Nat.reduceMul, Nat.reduceLeDiff, Nat.reduceSub, Nat.reduceLT, Int.reduceToNat, Int.reduceLT, Int.reduceLE, reduceCtorEq, Nat.zero_add, Nat.add_zero, and_self, and_true, true_and, ne_eq, not_false_eq_true, not_true_eq_false, decide_true, decide_false, Bool.false_eq_true, Bool.not_true, Bool.not_false, Bool.true_and, Bool.and_true, Bool.or_false, Bool.false_or, Bool.and_self]) (by simp only [go_sem, Int.reduceTMod, Int.reduceTDiv, Int.reduceDiv, Int.reduceMod, Int.reduceAdd, Int.reduceSub, Int.reduceMul, Int.reduceNeg, Int.reducePow, Int.reduceEq, bne_iff_ne, Int.cast_ofNat_Int, ↓reduceIte, Nat.reduceEqDiff, Nat.reduceAdd, Nat.reduceMul, Nat.reduceLeDiff, Nat.reduceSub, Nat.reduceLT, Int.reduceToNat, Int.reduceLT, Int.reduceLE, reduceCtorEq, Nat.zero_add, Nat.add_zero, and_self, and_true, true_and, ne_eq, not_false_eq_true, not_true_eq_false, decide_true, decide_false, Bool.false_eq_true, Bool.not_true, Bool.not_false, Bool.true_and, Bool.and_true, Bool.or_false, Bool.false_or, Bool.and_self]) (by omega)
    simp only [l47_0, r47_7, h7, hw, h0, hlt, r47_9, h00, h01, hn1, Int.toNat_natCast, hrd, hrd', hlt0, go_sem, Int.reduceTMod, Int.reduceTDiv, Int.reduceDiv, Int.reduceMod, Int.reduceAdd, Int.reduceSub, Int.reduceMul, Int.reduceNeg, Int.reducePow, Int.reduceEq, bne_iff_ne, Int.cast_ofNat_Int, ↓reduceIte, Nat.reduceEqDiff, Nat.reduceAdd, Nat.reduceMul, Nat.reduceLeDiff, Nat.reduceSub, Nat.reduceLT, Int.reduceToNat, Int.reduceLT, Int.reduceLE, reduceCtorEq, Nat.zero_add, Nat.add_zero, and_self, and_true, true_and, ne_eq, not_false_eq_true, not_true_eq_false, decide_true, decide_false, Bool.false_eq_true, Bool.not_true, Bool.not_false, Bool.true_and, Bool.and_true, Bool.or_false, Bool.false_or, Bool.and_self]
    refine R_callz (by first | (simp only [flats, Reg.flat, Cell.flat, List.all_cons, List.all_nil, Bool.and_self, go_sem, Int.reduceTMod, Int.reduceTDiv, Int.reduceDiv, Int.reduceMod, Int.reduceAdd, Int.reduceSub, Int.reduceMul, Int.reduceNeg, Int.reducePow, Int.reduceEq, bne_iff_ne, Int.cast_ofNat_Int, ↓reduceIte, Nat.reduceEqDiff, Nat.reduceAdd, Nat.reduceMul, Nat.reduceLeDiff, Nat.reduceSub, Nat.reduceLT, Int.reduceToNat, Int.reduceLT, Int.reduceLE, reduceCtorEq, Nat.zero_add, Nat.add_zero, and_self, and_true, true_and, ne_eq, not_false_eq_true, not_true_eq_false, decide_true, decide_false, Bool.false_eq_true, Bool.not_true, Bool.not_false, Bool.true_and, Bool.and_true, Bool.or_false, Bool.false_or, Bool.and_self]; done) | rfl) ?_
    try simp only [go_sem, Int.reduceTMod, Int.reduceTDiv, Int.reduceDiv, Int.reduceMod, Int.reduceAdd, Int.reduceSub, Int.reduceMul, Int.reduceNeg, Int.reducePow, Int.reduceEq, bne_iff_ne, Int.cast_ofNat_Int, ↓reduceIte, Nat.reduceEqDiff, Nat.reduceAdd, Nat.reduceMul, Nat.reduceLeDiff, Nat.reduceSub, Nat.reduceLT, Int.reduceToNat, Int.reduceLT, Int.reduceLE, reduceCtorEq, Nat.zero_add, Nat.add_zero, and_self, and_true, true_and, ne_eq, not_false_eq_true, not_true_eq_false, decide_true, decide_false, Bool.false_eq_true, Bool.not_true, Bool.not_false, Bool.true_and, Bool.and_true, Bool.or_false, Bool.false_or, Bool.and_self]
    refine Fn.mono (Mid48 l[i] l[i + 1] hin1 hin2 _ _) ?_
    rintro _ _ _ rfl
    refine ⟨rfl, ?_⟩
    try simp only [g1, r47_8, h7, hw, go_sem, Int.reduceTMod, Int.reduceTDiv, Int.reduceDiv, Int.reduceMod, Int.reduceAdd, Int.reduceSub, Int.reduceMul, Int.reduceNeg, Int.reducePow, Int.reduceEq, bne_iff_ne, Int.cast_ofNat_Int, ↓reduceIte, Nat.reduceEqDiff, Nat.reduceAdd, Nat.reduceMul, Nat.reduceLeDiff, Nat.reduceSub, Nat.reduceLT, Int.reduceToNat, Int.reduceLT, Int.reduceLE, reduceCtorEq, Nat.zero_add, Nat.add_zero, and_self, and_true, true_and, ne_eq, not_false_eq_true, not_true_eq_false, decide_true, decide_false, Bool.false_eq_true, Bool.not_true, Bool.not_false, Bool.true_and, Bool.and_true, Bool.or_false, Bool.false_or, Bool.and_self]
    refine ih (i + 1) _ _ _ (by omega) ?_ ?_ ?_ ?_ (by omega) ?_ ?_
    · simp only [h0, go_sem, Int.reduceTMod, Int.reduceTDiv, Int.reduceDiv, Int.reduceMod, Int.reduceAdd, Int.reduceSub, Int.reduceMul, Int.reduceNeg, Int.reducePow, Int.reduceEq, bne_iff_ne, Int.cast_ofNat_Int, ↓reduceIte, Nat.reduceEqDiff, Nat.reduceAdd, Nat.reduceMul, Nat.reduceLeDiff, Nat.reduceSub, Nat.reduceLT, Int.reduceToNat, Int.reduceLT, Int.reduceLE, reduceCtorEq, Nat.zero_add, Nat.add_zero, and_self, and_true, true_and, ne_eq, not_false_eq_true, not_true_eq_false, decide_true, decide_false, Bool.false_eq_true, Bool.not_true, Bool.not_false, Bool.true_and, Bool.and_true, Bool.or_false, Bool.false_or, Bool.and_self]
    · simp only [h4, go_sem, Int.reduceTMod, Int.reduceTDiv, Int.reduceDiv, Int.reduceMod, Int.reduceAdd, Int.reduceSub, Int.reduceMul, Int.reduceNeg, Int.reducePow, Int.reduceEq, bne_iff_ne, Int.cast_ofNat_Int, ↓reduceIte, Nat.reduceEqDiff, Nat.reduceAdd, Nat.reduceMul, Nat.reduceLeDiff, Nat.reduceSub, Nat.reduceLT, Int.reduceToNat, Int.reduceLT, Int.reduceLE, reduceCtorEq, Nat.zero_add, Nat.add_zero, and_self, and_true, true_and, ne_eq, not_false_eq_true, not_true_eq_false, decide_true, decide_false, Bool.false_eq_true, Bool.not_true, Bool.not_false, Bool.true_and, Bool.and_true, Bool.or_false, Bool.false_or, Bool.and_self]
    · simp only [h5, go_sem, Int.reduceTMod, Int.reduceTDiv, Int.reduceDiv, Int.reduceMod, Int.reduceAdd, Int.reduceSub, Int.reduceMul, Int.reduceNeg, Int.reducePow, Int.reduceEq, bne_iff_ne, Int.cast_ofNat_Int, ↓reduceIte, Nat.reduceEqDiff, Nat.reduceAdd, Nat.reduceMul, Nat.reduceLeDiff, Nat.reduceSub, Nat.reduceLT, Int.reduceToNat, Int.reduceLT, Int.reduceLE, reduceCtorEq, Nat.zero_add, Nat.add_zero, and_self, and_true, true_and, ne_eq, not_false_eq_true, not_true_eq_false, decide_true, decide_false, Bool.false_eq_true, Bool.not_true, Bool.not_false, Bool.true_and, Bool.and_true, Bool.or_false, Bool.false_or, Bool.and_self]
    · simp only [go_sem, Int.reduceTMod, Int.reduceTDiv, Int.reduceDiv, Int.reduceMod, Int.reduceAdd, Int.reduceSub, Int.reduceMul, Int.reduceNeg, Int.reducePow, Int.reduceEq, bne_iff_ne, Int.cast_ofNat_Int, ↓reduceIte, Nat.reduceEqDiff, Nat.reduceAdd, Nat.reduceMul, Nat.reduceLeDiff, Nat.reduceSub, Nat.reduceLT, Int.reduceToNat, Int.reduceLT, Int.reduceLE, reduceCtorEq, Nat.zero_add, Nat.add_zero, and_self, and_true, true_and, ne_eq, not_false_eq_true, not_true_eq_false, decide_true, decide_false, Bool.false_eq_true, Bool.not_true, Bool.not_false, Bool.true_and, Bool.and_true, Bool.or_false, Bool.false_or, Bool.and_self]
    · intro j hj
      rw [g3 j (by omega) (fun hs => by have := ho.lt hs; omega)]
      have q0 : (j = n) = False := eq_false (by omega)
      simp only [q0, go_sem, Int.reduceTMod, Int.reduceTDiv, Int.reduceDiv, Int.reduceMod, Int.reduceAdd, Int.reduceSub, Int.reduceMul, Int.reduceNeg, Int.reducePow, Int.reduceEq, bne_iff_ne, Int.cast_ofNat_Int, ↓reduceIte, Nat.reduceEqDiff, Nat.reduceAdd, Nat.reduceMul, Nat.reduceLeDiff, Nat.reduceSub, Nat.reduceLT, Int.reduceToNat, Int.reduceLT, Int.reduceLE, reduceCtorEq, Nat.zero_add, Nat.add_zero, and_self, and_true, true_and, ne_eq, not_false_eq_true, not_true_eq_false, decide_true, decide_false, Bool.false_eq_true, Bool.not_true, Bool.not_false, Bool.true_and, Bool.and_true, Bool.or_false, Bool.false_or, Bool.and_self]
      exact hold j hj
    · rw [htk]
      simp only [go_sem, Int.reduceTMod, Int.reduceTDiv, Int.reduceDiv, Int.reduceMod, Int.reduceAdd, Int.reduceSub, Int.reduceMul, Int.reduceNeg, Int.reducePow, Int.reduceEq, bne_iff_ne, Int.cast_ofNat_Int, ↓reduceIte, Nat.reduceEqDiff, Nat.reduceAdd, Nat.reduceMul, Nat.reduceLeDiff, Nat.reduceSub, Nat.reduceLT, Int.reduceToNat, Int.reduceLT, Int.reduceLE, reduceCtorEq, Nat.zero_add, Nat.add_zero, and_self, and_true, true_and, ne_eq, not_false_eq_true, not_true_eq_false, decide_true, decide_false, Bool.false_eq_true, Bool.not_true, Bool.not_false, Bool.true_and, Bool.and_true, Bool.or_false, Bool.false_or, Bool.and_self]
      exact g2
end Go.Proofs.YtpleidpbapgmiaaDoor.Sy.Cu

/- Curves: the reference's halves and lines. Conditions: those that each theorem names. -/
namespace Go.Proofs.YtpleidpbapgmiaaDoor.Sy.Cu
open Go Go.Proofs
set_option linter.unusedSimpArgs false
set_option linter.unusedVariables false
attribute [local go_sem] R_nil R_mv R_pick R_alloc R_box R_build R_bslice R_load1 R_loadA R_store R_nilchk R_bin R_beq R_eqv R_eqnil R_un R_conv R_mkfn R_mkslice R_slS R_slA R_fadr R_fld R_iadrA R_iadrS R_idxA R_ext R_len R_lenC R_cap R_app R_appz R_pre R_cpy R_mn R_mx
  noId Bool.false_or evalOp evO evOs upd_upd upd_at unfrz_at putE_some putE_none Then_some X_seq X_reg X_dreg X_ureg X_ret X_skip X_exit X_block X_condK condK_bool Next_n Next_x Next_r Out_n Out_x Out_r Ret_n Ret_r
  bin_shr1 bin_add bin_sub bin_mul bin_lss bin_leq bin_gtr bin_geq bin_eql bin_neq un_not un_neg boolOf_b boolOf_tup R_guard Option.map_some evRes pack_one pack_two pack_three pack_none List.getD_cons_zero List.getD_cons_succ getD_nil
  Option.some.injEq exists_eq_left' Reg.cs? fillC setL List.set_cons_zero List.set_cons_succ List.length_cons List.length_nil rd_upd rdB wr List.drop_zero List.drop_succ_cons List.take_succ_cons List.take_zero List.getElem?_cons_zero List.getElem?_cons_succ
  ix Int.toNat_zero lenO_sl lenO_nil sn1 ns1 sn2 ns2 sn3 ns3 sn4 ns4 sn5 ns5 sn6 ns6 sn7 ns7 sn8 ns8 sn9 ns9 sn10 ns10 sn11 ns11 sn12 ns12 sk1_2 sk1_3 sk1_4 sk1_5 sk1_6 sk1_7 sk1_8 sk2_1 sk2_3 sk2_4 sk2_5 sk2_6 sk2_7 sk2_8 sk3_1 sk3_2 sk3_4 sk3_5 sk3_6 sk3_7 sk3_8 sk4_1 sk4_2 sk4_3 sk4_5 sk4_6 sk4_7 sk4_8 sk5_1 sk5_2 sk5_3 sk5_4 sk5_6 sk5_7 sk5_8 sk6_1 sk6_2 sk6_3 sk6_4 sk6_5 sk6_7 sk6_8 sk7_1 sk7_2 sk7_3 sk7_4 sk7_5 sk7_6 sk7_8 sk8_1 sk8_2 sk8_3 sk8_4 sk8_5 sk8_6 sk8_7

/-- A slice of points that lies above what was. -/
def Sn (base : Nat) (m : Mem) (n : Nat) (r : Reg) (l : List Pt) : Prop := RP m n r l ∧ ∀ i, sid r = some i → base ≤ i

theorem Ow.sn {base n : Nat} {m : Mem} {r : Reg} {l : List Pt} (h : Ow base m n r (encP l) l.length 2) : Sn base m n r l := ⟨h.rd, fun i hi => (h.lt hi).1⟩
theorem Halves46 (r : Reg) (l0 : List Pt) (m0 : Mem) (n0 : Nat) (hr0 : RP m0 n0 r l0) (hl0 : l0.length ≤ 1000) (hin0 : l0.all inP = true) :
    Fn TA 47 [r] m0 n0 (fun r' m' n' => ∃ ra rb, r' = .tup [ra, rb] ∧ n0 ≤ n' ∧ (∀ id, id < n0 → m' id = m0 id) ∧ Sn n0 m' n' ra (firsts l0.length l0) ∧ Sn n0 m' n' rb (lasts l0.length l0)) := by
  refine Fn_of (fn := F47) rfl (by simp [F47]) ?_
  obtain ⟨L, hL⟩ : ∃ L_, L_ = SC.loop l47_1 := ⟨_, rfl⟩
  have hX : ∀ s Q, X TA l47_1 s (Next Q (fun s_ => X TA L s_ Q)) → X TA L s Q := by subst hL; exact fun _ _ h => X_loop h
  have key : ∀ (k : Nat) (l a b : List Pt) (e : Nat → Reg) (m : Mem) (n : Nat), l.length = k → l.all inP = true → a.length + k ≤ 1000 → b.length + k ≤ 1000 → n0 ≤ n → (∀ id, id < n0 → m id = m0 id) →
      RP m n (e 0) l → Ow n0 m n (e 4) (encP a) a.length 2 → Sn n0 m n (e 5) b → (∀ i, sid (e 4) = some i → sid (e 0) ≠ some i ∧ sid (e 5) ≠ some i) →
      X TA L ⟨e, m, n⟩ (fun e s' => e = .x 0 ∧ n0 ≤ s'.n ∧ (∀ id, id < n0 → s'.m id = m0 id) ∧ Sn n0 s'.m s'.n (s'.e 4) (a ++ firsts k l) ∧ Sn n0 s'.m s'.n (s'.e 5) (lasts k l ++ b)) := by
    intro k
    induction k with
    | zero =>
      intro l a b e m n hk hin hal hbl hn hold hr ha hb hne
      refine hX _ _ ?_
      have hlen := Rd.len hr
      rw [hk] at hlen
      simp only [l47_1, r47_2, hlen, Int.natCast_zero, Int.lt_irrefl, firsts, lasts, List.append_nil, List.nil_append, go_sem, Int.reduceTMod, Int.reduceTDiv, Int.reduceDiv, Int.reduceMod, Int.reduceAdd, Int.reduceSub, Int.reduceMul, Int.reduceNeg, Int.reducePow, Int.reduceEq, bne_iff_ne, Int.cast_ofNat_Int, ↓reduceIte, Nat.reduceEqDiff, Nat.reduceAdd, Nat.reduceMul, Nat.reduceLeDiff, Nat.reduceSub, Nat.reduceLT, Int.reduceToNat, Int.reduceLT, Int.reduceLE, reduceCtorEq, Nat.zero_add, Nat.add_zero, and_self, and_true, true_and, ne_eq, not_false_eq_true, not_true_eq_false, decide_true, decide_false, Bool.false_eq_true, Bool.not_true, Bool.not_false, Bool.true_and, Bool.and_true, Bool.or_false, Bool.false_or, Bool.and_self]
      exact ⟨hn, hold, ha.sn, hb⟩
    | succ k ih =>
      intro l a b e m n hk hin hal hbl hn hold hr ha hb hne
      refine hX _ _ ?_
      have hpos : 0 < l.length := by omega
      have hlast : l.length - 1 < l.length := by omega
      have hlen := Rd.len hr
      have hgt : (0 : Int) < (l.length : Int) := by omega
      obtain ⟨id, off, cap, he0, hid, hrd⟩ := RP.sl hr hpos
      obtain ⟨id', off', cap', he0', _, hrdl⟩ := RP.sl hr hlast
      rw [he0] at he0'
      cases he0'
      have hw : IntKind.i64.wrap ((l.length : Int) - 1) = ((l.length - 1 : Nat) : Int) := by rw [wr_eq (by omega) (by omega)]; omega
      have h01 : (0 : Int) ≤ ((l.length - 1 : Nat) : Int) := by omega
      have hlt1 : ((l.length - 1 : Nat) : Int) < (l.length : Int) := by omega
      rw [Nat.zero_mul, Nat.add_zero] at hrd
      have hs0 : ∀ i, sid (e 4) = some i → i ≠ id := fun i hi he => (hne i hi).1 (by rw [he0]; simp [sid, he])
      -- the first one
      obtain ⟨m1, p1, p2, p3⟩ := push (N := n + 1) (M := upd m n (some ⟨l[0].cs, true⟩)) (p := l[0]) (j := n) (by' := 16) (o := true) ha (by omega) hn (fun j hj => by simp only [lt0 hj, go_sem, Int.reduceTMod, Int.reduceTDiv, Int.reduceDiv, Int.reduceMod, Int.reduceAdd, Int.reduceSub, Int.reduceMul, Int.reduceNeg, Int.reducePow, Int.reduceEq, bne_iff_ne, Int.cast_ofNat_Int, ↓reduceIte, Nat.reduceEqDiff, Nat.reduceAdd, Nat.reduceMul, Nat.reduceLeDiff, Nat.reduceSub, Nat.reduceLT, Int.reduceToNat, Int.reduceLT, Int.reduceLE, reduceCtorEq, Nat.zero_add, Nat.add_zero, and_self, and_true, true_and, ne_eq, not_false_eq_true, not_true_eq_false, decide_true, decide_false, Bool.false_eq_true, Bool.not_true, Bool.not_false, Bool.true_and, Bool.and_true, Bool.or_false, Bool.false_or, Bool.and_self]) (by simp only [go_sem, Int.reduceTMod, Int.reduceTDiv, Int.reduceDiv, Int.reduceMod, Int.reduceAdd, Int.reduceSub, Int.reduceMul, Int.reduceNeg, Int.reducePow, Int.reduceEq, bne_iff_ne, Int.cast_ofNat_Int, ↓reduceIte, Nat.reduceEqDiff, Nat.reduceAdd, Nat.reduceMul, Nat.reduceLeDiff, Nat.reduceSub, Nat.reduceLT, Int.reduceToNat, Int.reduceLT, Int.reduceLE, reduceCtorEq, Nat.zero_add, Nat.add_zero, and_self, and_true, true_and, ne_eq, not_false_eq_true, not_true_eq_false, decide_true, decide_false, Bool.false_eq_true, Bool.not_true, Bool.not_false, Bool.true_and, Bool.and_true, Bool.or_false, Bool.false_or, Bool.and_self]) (by omega)
      have hold1 : ∀ j, j < n → sid (e 4) ≠ some j → m1 j = m j := fun j hj hs => by
        rw [p3 j (by omega) hs]
        have q0 : (j = n) = False := eq_false (by omega)
        simp only [q0, go_sem, Int.reduceTMod, Int.reduceTDiv, Int.reduceDiv, Int.reduceMod, Int.reduceAdd, Int.reduceSub, Int.reduceMul, Int.reduceNeg, Int.reducePow, Int.reduceEq, bne_iff_ne, Int.cast_ofNat_Int, ↓reduceIte, Nat.reduceEqDiff, Nat.reduceAdd, Nat.reduceMul, Nat.reduceLeDiff, Nat.reduceSub, Nat.reduceLT, Int.reduceToNat, Int.reduceLT, Int.reduceLE, reduceCtorEq, Nat.zero_add, Nat.add_zero, and_self, and_true, true_and, ne_eq, not_false_eq_true, not_true_eq_false, decide_true, decide_false, Bool.false_eq_true, Bool.not_true, Bool.not_false, Bool.true_and, Bool.and_true, Bool.or_false, Bool.false_or, Bool.and_self]
      have hm1id : m1 id = m id := hold1 id hid (fun hs => hs0 _ hs rfl)
      have hrdl1 : rd m1 id (off + (l.length - 1) * 2) 2 = some [I l[l.length - 1].x, I l[l.length - 1].y] := by unfold rd at hrdl ⊢; rw [hm1id]; exact hrdl
      have hb1 : ∀ i, sid (e 5) = some i → m1 i = m i := fun i hi => hold1 i (RP.lt hb.1 hi) (fun hs => (hne i hs).2 hi)
      -- the last one
      obtain ⟨rb, m2, N2, q1, q2, q3, q4, q5⟩ := pre (N := n + 1 + 1 + 1) (M := upd m1 (n + 1 + 1) (some ⟨l[l.length - 1].cs, true⟩)) (p := l[l.length - 1]) (j := n + 1 + 1) (by' := 16) hb.1 (by omega) (fun i hi => by have := RP.lt hb.1 hi; simp only [lt2 this, go_sem, Int.reduceTMod, Int.reduceTDiv, Int.reduceDiv, Int.reduceMod, Int.reduceAdd, Int.reduceSub, Int.reduceMul, Int.reduceNeg, Int.reducePow, Int.reduceEq, bne_iff_ne, Int.cast_ofNat_Int, ↓reduceIte, Nat.reduceEqDiff, Nat.reduceAdd, Nat.reduceMul, Nat.reduceLeDiff, Nat.reduceSub, Nat.reduceLT, Int.reduceToNat, Int.reduceLT, Int.reduceLE, reduceCtorEq, Nat.zero_add, Nat.add_zero, and_self, and_true, true_and, ne_eq, not_false_eq_true, not_true_eq_false, decide_true, decide_false, Bool.false_eq_true, Bool.not_true, Bool.not_false, Bool.true_and, Bool.and_true, Bool.or_false, Bool.false_or, Bool.and_self]; exact hb1 i hi) (by simp only [go_sem, Int.reduceTMod, Int.reduceTDiv, Int.reduceDiv, Int.reduceMod, Int.reduceAdd, Int.reduceSub, Int.reduceMul, Int.reduceNeg, Int.reducePow, Int.reduceEq, bne_iff_ne, Int.cast_ofNat_Int, ↓reduceIte, Nat.reduceEqDiff, Nat.reduceAdd, Nat.reduceMul, Nat.reduceLeDiff, Nat.reduceSub, Nat.reduceLT, Int.reduceToNat, Int.reduceLT, Int.reduceLE, reduceCtorEq, Nat.zero_add, Nat.add_zero, and_self, and_true, true_and, ne_eq, not_false_eq_true, not_true_eq_false, decide_true, decide_false, Bool.false_eq_true, Bool.not_true, Bool.not_false, Bool.true_and, Bool.and_true, Bool.or_false, Bool.false_or, Bool.and_self]) (by omega) (by omega)
      have hm2 : ∀ j, j < n + 1 + 1 → m2 j = m1 j := fun j hj => by
        rw [q5 j (by omega)]
        have q0 : (j = n + 1 + 1) = False := eq_false (by omega)
        simp only [q0, go_sem, Int.reduceTMod, Int.reduceTDiv, Int.reduceDiv, Int.reduceMod, Int.reduceAdd, Int.reduceSub, Int.reduceMul, Int.reduceNeg, Int.reducePow, Int.reduceEq, bne_iff_ne, Int.cast_ofNat_Int, ↓reduceIte, Nat.reduceEqDiff, Nat.reduceAdd, Nat.reduceMul, Nat.reduceLeDiff, Nat.reduceSub, Nat.reduceLT, Int.reduceToNat, Int.reduceLT, Int.reduceLE, reduceCtorEq, Nat.zero_add, Nat.add_zero, and_self, and_true, true_and, ne_eq, not_false_eq_true, not_true_eq_false, decide_true, decide_false, Bool.false_eq_true, Bool.not_true, Bool.not_false, Bool.true_and, Bool.and_true, Bool.or_false, Bool.false_or, Bool.and_self]
      have hr2 : RP m2 N2 (e 0) l := RP.keep' hr (by omega) (fun i hi => by
        rw [he0] at hi
        simp only [sid, Option.some.injEq] at hi
        subst hi
        rw [hm2 _ (by omega), hm1id])
      have ha2 : Ow n0 m2 N2 (.one (.sl (n + 1) 0 (a.length + 1) none 2)) (encP (a ++ [l[0]])) (a ++ [l[0]]).length 2 := p2.keep (by omega) (fun i hi => by simp only [sid, Option.some.injEq] at hi; subst hi; exact hm2 _ (by omega))
      have hml : (mids l).length = k := by rw [mids_len]; omega
      simp only [l47_1, r47_2, hlen, hgt, r47_3, he0, hrd, p1, r47_4, hw, h01, hlt1, Int.toNat_natCast, hrdl1, q1, r47_5, r47_6, go_sem, Int.reduceTMod, Int.reduceTDiv, Int.reduceDiv, Int.reduceMod, Int.reduceAdd, Int.reduceSub, Int.reduceMul, Int.reduceNeg, Int.reducePow, Int.reduceEq, bne_iff_ne, Int.cast_ofNat_Int, ↓reduceIte, Nat.reduceEqDiff, Nat.reduceAdd, Nat.reduceMul, Nat.reduceLeDiff, Nat.reduceSub, Nat.reduceLT, Int.reduceToNat, Int.reduceLT, Int.reduceLE, reduceCtorEq, Nat.zero_add, Nat.add_zero, and_self, and_true, true_and, ne_eq, not_false_eq_true, not_true_eq_false, decide_true, decide_false, Bool.false_eq_true, Bool.not_true, Bool.not_false, Bool.true_and, Bool.and_true, Bool.or_false, Bool.false_or, Bool.and_self]
      refine X.mono (inner46 (e 0) l N2 m2 hr2 (by omega) hin (.one (.sl (n + 1) 0 (a.length + 1) none 2)) rb k 0 _ m2 N2 (by omega) ?_ ?_ ?_ ?_ (Nat.le_refl _) (fun _ _ => rfl) (Or.inl ⟨?_, rfl, rfl⟩)) ?_
      · simp only [he0, go_sem, Int.reduceTMod, Int.reduceTDiv, Int.reduceDiv, Int.reduceMod, Int.reduceAdd, Int.reduceSub, Int.reduceMul, Int.reduceNeg, Int.reducePow, Int.reduceEq, bne_iff_ne, Int.cast_ofNat_Int, ↓reduceIte, Nat.reduceEqDiff, Nat.reduceAdd, Nat.reduceMul, Nat.reduceLeDiff, Nat.reduceSub, Nat.reduceLT, Int.reduceToNat, Int.reduceLT, Int.reduceLE, reduceCtorEq, Nat.zero_add, Nat.add_zero, and_self, and_true, true_and, ne_eq, not_false_eq_true, not_true_eq_false, decide_true, decide_false, Bool.false_eq_true, Bool.not_true, Bool.not_false, Bool.true_and, Bool.and_true, Bool.or_false, Bool.false_or, Bool.and_self]
      · simp only [go_sem, Int.reduceTMod, Int.reduceTDiv, Int.reduceDiv, Int.reduceMod, Int.reduceAdd, Int.reduceSub, Int.reduceMul, Int.reduceNeg, Int.reducePow, Int.reduceEq, bne_iff_ne, Int.cast_ofNat_Int, ↓reduceIte, Nat.reduceEqDiff, Nat.reduceAdd, Nat.reduceMul, Nat.reduceLeDiff, Nat.reduceSub, Nat.reduceLT, Int.reduceToNat, Int.reduceLT, Int.reduceLE, reduceCtorEq, Nat.zero_add, Nat.add_zero, and_self, and_true, true_and, ne_eq, not_false_eq_true, not_true_eq_false, decide_true, decide_false, Bool.false_eq_true, Bool.not_true, Bool.not_false, Bool.true_and, Bool.and_true, Bool.or_false, Bool.false_or, Bool.and_self]
      · simp only [go_sem, Int.reduceTMod, Int.reduceTDiv, Int.reduceDiv, Int.reduceMod, Int.reduceAdd, Int.reduceSub, Int.reduceMul, Int.reduceNeg, Int.reducePow, Int.reduceEq, bne_iff_ne, Int.cast_ofNat_Int, ↓reduceIte, Nat.reduceEqDiff, Nat.reduceAdd, Nat.reduceMul, Nat.reduceLeDiff, Nat.reduceSub, Nat.reduceLT, Int.reduceToNat, Int.reduceLT, Int.reduceLE, reduceCtorEq, Nat.zero_add, Nat.add_zero, and_self, and_true, true_and, ne_eq, not_false_eq_true, not_true_eq_false, decide_true, decide_false, Bool.false_eq_true, Bool.not_true, Bool.not_false, Bool.true_and, Bool.and_true, Bool.or_false, Bool.false_or, Bool.and_self]
      · simp only [go_sem, Int.reduceTMod, Int.reduceTDiv, Int.reduceDiv, Int.reduceMod, Int.reduceAdd, Int.reduceSub, Int.reduceMul, Int.reduceNeg, Int.reducePow, Int.reduceEq, bne_iff_ne, Int.cast_ofNat_Int, ↓reduceIte, Nat.reduceEqDiff, Nat.reduceAdd, Nat.reduceMul, Nat.reduceLeDiff, Nat.reduceSub, Nat.reduceLT, Int.reduceToNat, Int.reduceLT, Int.reduceLE, reduceCtorEq, Nat.zero_add, Nat.add_zero, and_self, and_true, true_and, ne_eq, not_false_eq_true, not_true_eq_false, decide_true, decide_false, Bool.false_eq_true, Bool.not_true, Bool.not_false, Bool.true_and, Bool.and_true, Bool.or_false, Bool.false_or, Bool.and_self]
      · simp only [go_sem, Int.reduceTMod, Int.reduceTDiv, Int.reduceDiv, Int.reduceMod, Int.reduceAdd, Int.reduceSub, Int.reduceMul, Int.reduceNeg, Int.reducePow, Int.reduceEq, bne_iff_ne, Int.cast_ofNat_Int, ↓reduceIte, Nat.reduceEqDiff, Nat.reduceAdd, Nat.reduceMul, Nat.reduceLeDiff, Nat.reduceSub, Nat.reduceLT, Int.reduceToNat, Int.reduceLT, Int.reduceLE, reduceCtorEq, Nat.zero_add, Nat.add_zero, and_self, and_true, true_and, ne_eq, not_false_eq_true, not_true_eq_false, decide_true, decide_false, Bool.false_eq_true, Bool.not_true, Bool.not_false, Bool.true_and, Bool.and_true, Bool.or_false, Bool.false_or, Bool.and_self]
      rintro e' ⟨e2, m3, n3⟩ ⟨rfl, g0, g4, g5, g6, g7, g8⟩
      simp only at g0 g4 g5 g6 g7 g8
      simp only [r47_10, go_sem, Int.reduceTMod, Int.reduceTDiv, Int.reduceDiv, Int.reduceMod, Int.reduceAdd, Int.reduceSub, Int.reduceMul, Int.reduceNeg, Int.reducePow, Int.reduceEq, bne_iff_ne, Int.cast_ofNat_Int, ↓reduceIte, Nat.reduceEqDiff, Nat.reduceAdd, Nat.reduceMul, Nat.reduceLeDiff, Nat.reduceSub, Nat.reduceLT, Int.reduceToNat, Int.reduceLT, Int.reduceLE, reduceCtorEq, Nat.zero_add, Nat.add_zero, and_self, and_true, true_and, ne_eq, not_false_eq_true, not_true_eq_false, decide_true, decide_false, Bool.false_eq_true, Bool.not_true, Bool.not_false, Bool.true_and, Bool.and_true, Bool.or_false, Bool.false_or, Bool.and_self]
      have e3 : (l.take 1) = [l[0]] := by
        cases l with
        | nil => simp at hpos
        | cons x l => rfl
      have e4 : l.drop (l.length - 1) = [l[l.length - 1]] := by
        rw [List.drop_eq_getElem_cons hlast, List.drop_of_length_le (by omega)]
      refine X.mono (ih (mids l) (a ++ [l[0]]) (l[l.length - 1] :: b) _ m3 n3 hml (mids_in hin) (by simp; omega) (by simp; omega) (by omega) ?_ ?_ ?_ ?_ ?_) ?_
      · intro j hj
        rw [g7 j (by omega), hm2 j (by omega), hold1 j (by omega) (fun hs => by have := (ha.lt hs).1; omega)]
        exact hold j hj
      · simp only [go_sem, Int.reduceTMod, Int.reduceTDiv, Int.reduceDiv, Int.reduceMod, Int.reduceAdd, Int.reduceSub, Int.reduceMul, Int.reduceNeg, Int.reducePow, Int.reduceEq, bne_iff_ne, Int.cast_ofNat_Int, ↓reduceIte, Nat.reduceEqDiff, Nat.reduceAdd, Nat.reduceMul, Nat.reduceLeDiff, Nat.reduceSub, Nat.reduceLT, Int.reduceToNat, Int.reduceLT, Int.reduceLE, reduceCtorEq, Nat.zero_add, Nat.add_zero, and_self, and_true, true_and, ne_eq, not_false_eq_true, not_true_eq_false, decide_true, decide_false, Bool.false_eq_true, Bool.not_true, Bool.not_false, Bool.true_and, Bool.and_true, Bool.or_false, Bool.false_or, Bool.and_self]
        exact g8.rd
      · simp only [g4, go_sem, Int.reduceTMod, Int.reduceTDiv, Int.reduceDiv, Int.reduceMod, Int.reduceAdd, Int.reduceSub, Int.reduceMul, Int.reduceNeg, Int.reducePow, Int.reduceEq, bne_iff_ne, Int.cast_ofNat_Int, ↓reduceIte, Nat.reduceEqDiff, Nat.reduceAdd, Nat.reduceMul, Nat.reduceLeDiff, Nat.reduceSub, Nat.reduceLT, Int.reduceToNat, Int.reduceLT, Int.reduceLE, reduceCtorEq, Nat.zero_add, Nat.add_zero, and_self, and_true, true_and, ne_eq, not_false_eq_true, not_true_eq_false, decide_true, decide_false, Bool.false_eq_true, Bool.not_true, Bool.not_false, Bool.true_and, Bool.and_true, Bool.or_false, Bool.false_or, Bool.and_self]
        exact ha2.keep g6 (fun i hi => by simp only [sid, Option.some.injEq] at hi; subst hi; exact g7 _ (by omega))
      · simp only [g5, go_sem, Int.reduceTMod, Int.reduceTDiv, Int.reduceDiv, Int.reduceMod, Int.reduceAdd, Int.reduceSub, Int.reduceMul, Int.reduceNeg, Int.reducePow, Int.reduceEq, bne_iff_ne, Int.cast_ofNat_Int, ↓reduceIte, Nat.reduceEqDiff, Nat.reduceAdd, Nat.reduceMul, Nat.reduceLeDiff, Nat.reduceSub, Nat.reduceLT, Int.reduceToNat, Int.reduceLT, Int.reduceLE, reduceCtorEq, Nat.zero_add, Nat.add_zero, and_self, and_true, true_and, ne_eq, not_false_eq_true, not_true_eq_false, decide_true, decide_false, Bool.false_eq_true, Bool.not_true, Bool.not_false, Bool.true_and, Bool.and_true, Bool.or_false, Bool.false_or, Bool.and_self]
        exact ⟨RP.keep' q3 g6 (fun i hi => g7 i (RP.lt q3 hi)), fun i hi => by rcases q4 i hi with h | h <;> omega⟩
      · simp only [g4, g5, go_sem, Int.reduceTMod, Int.reduceTDiv, Int.reduceDiv, Int.reduceMod, Int.reduceAdd, Int.reduceSub, Int.reduceMul, Int.reduceNeg, Int.reducePow, Int.reduceEq, bne_iff_ne, Int.cast_ofNat_Int, ↓reduceIte, Nat.reduceEqDiff, Nat.reduceAdd, Nat.reduceMul, Nat.reduceLeDiff, Nat.reduceSub, Nat.reduceLT, Int.reduceToNat, Int.reduceLT, Int.reduceLE, reduceCtorEq, Nat.zero_add, Nat.add_zero, and_self, and_true, true_and, ne_eq, not_false_eq_true, not_true_eq_false, decide_true, decide_false, Bool.false_eq_true, Bool.not_true, Bool.not_false, Bool.true_and, Bool.and_true, Bool.or_false, Bool.false_or, Bool.and_self]
        intro i hi
        simp only [sid, Option.some.injEq] at hi
        subst hi
        refine ⟨fun hs => ?_, fun hs => ?_⟩
        · have := (g8.lt hs).1; omega
        · rcases q4 _ hs with h | h <;> omega
      · rintro e' s' ⟨h1, h2, h3, h4, h5⟩
        refine ⟨h1, h2, h3, ?_, ?_⟩
        · rw [firsts, e3]
          simpa using h4
        · rw [lasts, e4]
          simpa using h5
  simp only [F47, c47, r47_0, r47_1, ← hL, go_sem, Int.reduceTMod, Int.reduceTDiv, Int.reduceDiv, Int.reduceMod, Int.reduceAdd, Int.reduceSub, Int.reduceMul, Int.reduceNeg, Int.reducePow, Int.reduceEq, bne_iff_ne, Int.cast_ofNat_Int, ↓reduceIte, Nat.reduceEqDiff, Nat.reduceAdd, Nat.reduceMul, Nat.reduceLeDiff, Nat.reduceSub, Nat.reduceLT, Int.reduceToNat, Int.reduceLT, Int.reduceLE, reduceCtorEq, Nat.zero_add, Nat.add_zero, and_self, and_true, true_and, ne_eq, not_false_eq_true, not_true_eq_false, decide_true, decide_false, Bool.false_eq_true, Bool.not_true, Bool.not_false, Bool.true_and, Bool.and_true, Bool.or_false, Bool.false_or, Bool.and_self]
  refine X.mono (key l0.length l0 [] [] _ m0 n0 rfl hin0 (by simpa using hl0) (by simpa using hl0) (Nat.le_refl _) (fun _ _ => rfl) ?_ (Or.inl ⟨?_, rfl, rfl⟩) ⟨Or.inl ⟨?_, rfl, rfl⟩, ?_⟩ ?_) ?_
  · simp only [go_sem, Int.reduceTMod, Int.reduceTDiv, Int.reduceDiv, Int.reduceMod, Int.reduceAdd, Int.reduceSub, Int.reduceMul, Int.reduceNeg, Int.reducePow, Int.reduceEq, bne_iff_ne, Int.cast_ofNat_Int, ↓reduceIte, Nat.reduceEqDiff, Nat.reduceAdd, Nat.reduceMul, Nat.reduceLeDiff, Nat.reduceSub, Nat.reduceLT, Int.reduceToNat, Int.reduceLT, Int.reduceLE, reduceCtorEq, Nat.zero_add, Nat.add_zero, and_self, and_true, true_and, ne_eq, not_false_eq_true, not_true_eq_false, decide_true, decide_false, Bool.false_eq_true, Bool.not_true, Bool.not_false, Bool.true_and, Bool.and_true, Bool.or_false, Bool.false_or, Bool.and_self]
    exact hr0
  · simp only [go_sem, Int.reduceTMod, Int.reduceTDiv, Int.reduceDiv, Int.reduceMod, Int.reduceAdd, Int.reduceSub, Int.reduceMul, Int.reduceNeg, Int.reducePow, Int.reduceEq, bne_iff_ne, Int.cast_ofNat_Int, ↓reduceIte, Nat.reduceEqDiff, Nat.reduceAdd, Nat.reduceMul, Nat.reduceLeDiff, Nat.reduceSub, Nat.reduceLT, Int.reduceToNat, Int.reduceLT, Int.reduceLE, reduceCtorEq, Nat.zero_add, Nat.add_zero, and_self, and_true, true_and, ne_eq, not_false_eq_true, not_true_eq_false, decide_true, decide_false, Bool.false_eq_true, Bool.not_true, Bool.not_false, Bool.true_and, Bool.and_true, Bool.or_false, Bool.false_or, Bool.and_self]
  · simp only [go_sem, Int.reduceTMod, Int.reduceTDiv, Int.reduceDiv, Int.reduceMod, Int.reduceAdd, Int.reduceSub, Int.reduceMul, Int.reduceNeg, Int.reducePow, Int.reduceEq, bne_iff_ne, Int.cast_ofNat_Int, ↓reduceIte, Nat.reduceEqDiff, Nat.reduceAdd, Nat.reduceMul, Nat.reduceLeDiff, Nat.reduceSub, Nat.reduceLT, Int.reduceToNat, Int.reduceLT, Int.reduceLE, reduceCtorEq, Nat.zero_add, Nat.add_zero, and_self, and_true, true_and, ne_eq, not_false_eq_true, not_true_eq_false, decide_true, decide_false, Bool.false_eq_true, Bool.not_true, Bool.not_false, Bool.true_and, Bool.and_true, Bool.or_false, Bool.false_or, Bool.and_self]
  · simp only [sid, go_sem, Int.reduceTMod, Int.reduceTDiv, Int.reduceDiv, Int.reduceMod, Int.reduceAdd, Int.reduceSub, Int.reduceMul, Int.reduceNeg, Int.reducePow, Int.reduceEq, bne_iff_ne, Int.cast_ofNat_Int, ↓reduceIte, Nat.reduceEqDiff, Nat.reduceAdd, Nat.reduceMul, Nat.reduceLeDiff, Nat.reduceSub, Nat.reduceLT, Int.reduceToNat, Int.reduceLT, Int.reduceLE, reduceCtorEq, Nat.zero_add, Nat.add_zero, and_self, and_true, true_and, ne_eq, not_false_eq_true, not_true_eq_false, decide_true, decide_false, Bool.false_eq_true, Bool.not_true, Bool.not_false, Bool.true_and, Bool.and_true, Bool.or_false, Bool.false_or, Bool.and_self]
    intro i hi
    cases hi
  · simp only [sid, go_sem, Int.reduceTMod, Int.reduceTDiv, Int.reduceDiv, Int.reduceMod, Int.reduceAdd, Int.reduceSub, Int.reduceMul, Int.reduceNeg, Int.reducePow, Int.reduceEq, bne_iff_ne, Int.cast_ofNat_Int, ↓reduceIte, Nat.reduceEqDiff, Nat.reduceAdd, Nat.reduceMul, Nat.reduceLeDiff, Nat.reduceSub, Nat.reduceLT, Int.reduceToNat, Int.reduceLT, Int.reduceLE, reduceCtorEq, Nat.zero_add, Nat.add_zero, and_self, and_true, true_and, ne_eq, not_false_eq_true, not_true_eq_false, decide_true, decide_false, Bool.false_eq_true, Bool.not_true, Bool.not_false, Bool.true_and, Bool.and_true, Bool.or_false, Bool.false_or, Bool.and_self]
    intro i hi
    cases hi
  · rintro e s' ⟨rfl, h2, h3, h4, h5⟩
    simp only [r47_11, go_sem, Int.reduceTMod, Int.reduceTDiv, Int.reduceDiv, Int.reduceMod, Int.reduceAdd, Int.reduceSub, Int.reduceMul, Int.reduceNeg, Int.reducePow, Int.reduceEq, bne_iff_ne, Int.cast_ofNat_Int, ↓reduceIte, Nat.reduceEqDiff, Nat.reduceAdd, Nat.reduceMul, Nat.reduceLeDiff, Nat.reduceSub, Nat.reduceLT, Int.reduceToNat, Int.reduceLT, Int.reduceLE, reduceCtorEq, Nat.zero_add, Nat.add_zero, and_self, and_true, true_and, ne_eq, not_false_eq_true, not_true_eq_false, decide_true, decide_false, Bool.false_eq_true, Bool.not_true, Bool.not_false, Bool.true_and, Bool.and_true, Bool.or_false, Bool.false_or, Bool.and_self]
    rw [List.nil_append] at h4
    rw [List.append_nil] at h5
    exact ⟨_, _, rfl, h2, h3, h4, h5⟩
end Go.Proofs.YtpleidpbapgmiaaDoor.Sy.Cu

/- Curves: the reference's lines. Conditions: those that each theorem names. -/
namespace Go.Proofs.YtpleidpbapgmiaaDoor.Sy.Cu
open Go Go.Proofs
set_option linter.unusedSimpArgs false
set_option linter.unusedVariables false
attribute [local go_sem] R_nil R_mv R_pick R_alloc R_box R_build R_bslice R_load1 R_loadA R_store R_nilchk R_bin R_beq R_eqv R_eqnil R_un R_conv R_mkfn R_mkslice R_slS R_slA R_fadr R_fld R_iadrA R_iadrS R_idxA R_ext R_len R_lenC R_cap R_app R_appz R_pre R_cpy R_mn R_mx
  noId Bool.false_or evalOp evO evOs upd_upd upd_at unfrz_at putE_some putE_none Then_some X_seq X_reg X_dreg X_ureg X_ret X_skip X_exit X_block X_condK condK_bool Next_n Next_x Next_r Out_n Out_x Out_r Ret_n Ret_r
  bin_shr1 bin_add bin_sub bin_mul bin_lss bin_leq bin_gtr bin_geq bin_eql bin_neq un_not un_neg boolOf_b boolOf_tup R_guard Option.map_some evRes pack_one pack_two pack_three pack_none List.getD_cons_zero List.getD_cons_succ getD_nil
  Option.some.injEq exists_eq_left' Reg.cs? fillC setL List.set_cons_zero List.set_cons_succ List.length_cons List.length_nil rd_upd rdB wr List.drop_zero List.drop_succ_cons List.take_succ_cons List.take_zero List.getElem?_cons_zero List.getElem?_cons_succ
  ix Int.toNat_zero lenO_sl lenO_nil sn1 ns1 sn2 ns2 sn3 ns3 sn4 ns4 sn5 ns5 sn6 ns6 sn7 ns7 sn8 ns8 sn9 ns9 sn10 ns10 sn11 ns11 sn12 ns12 sk1_2 sk1_3 sk1_4 sk1_5 sk1_6 sk1_7 sk1_8 sk2_1 sk2_3 sk2_4 sk2_5 sk2_6 sk2_7 sk2_8 sk3_1 sk3_2 sk3_4 sk3_5 sk3_6 sk3_7 sk3_8 sk4_1 sk4_2 sk4_3 sk4_5 sk4_6 sk4_7 sk4_8 sk5_1 sk5_2 sk5_3 sk5_4 sk5_6 sk5_7 sk5_8 sk6_1 sk6_2 sk6_3 sk6_4 sk6_5 sk6_7 sk6_8 sk7_1 sk7_2 sk7_3 sk7_4 sk7_5 sk7_6 sk7_8 sk8_1 sk8_2 sk8_3 sk8_4 sk8_5 sk8_6 sk8_7

theorem firsts_cv (v : Cv) : firsts v.pts.length v.pts = v.fst.pts := by cases v <;> rfl
theorem lasts_cv (v : Cv) : lasts v.pts.length v.pts = v.snd.pts := by cases v <;> rfl
theorem pts_in {v : Cv} (h : v.inP = true) : v.pts.all inP = true := by
  have : v.pts.all inP = v.inP := by cases v <;> simp [Cv.pts, Cv.inP, Bool.and_assoc]
  rw [this, h]
theorem pts_len (v : Cv) : v.pts.length = 3 ∨ v.pts.length = 4 := by cases v <;> simp [Cv.pts]
theorem Sn.unfrz {m m' : Mem} {n n' : Nat} {r : Reg} {l : List Pt} (h : Sn n m' n' r l) : Sn n (unfrz m n m') n' r l :=
  ⟨RP.keep' h.1 (Nat.le_refl _) (fun i hi => by rw [unfrz_at, if_neg (by have := h.2 i hi; omega)]), h.2⟩

/-- A list that may be appended to. -/
def Gr (base : Nat) (m : Mem) (n : Nat) (r : Reg) (l : List Pt) : Prop :=
  ∃ id cap, r = .one (.sl id 0 l.length cap 2) ∧ base ≤ id ∧ id < n ∧ m id = some ⟨encP l, true⟩ ∧ (cap = none ∨ cap = some l.length)
theorem Gr.sn {base n : Nat} {m : Mem} {r : Reg} {l : List Pt} (h : Gr base m n r l) : Sn base m n r l := by
  obtain ⟨id, cap, rfl, h1, h2, h3, h4⟩ := h
  have hl : (encP l).length = l.length * 2 := flatMap_len _ 2 cs2 l
  refine ⟨Or.inr ⟨id, 0, cap, rfl, h2, ?_⟩, fun i hi => by simp only [sid, Option.some.injEq] at hi; omega⟩
  unfold rd
  rw [h3]
  simp only [Nat.zero_add, List.drop_zero]
  rw [if_pos (by rw [hl]; exact Nat.le_refl _), ← hl, List.take_length]
theorem Gr.keep {base n n' : Nat} {m m' : Mem} {r : Reg} {l : List Pt} (h : Gr base m n r l) (hn : n ≤ n') (hm : ∀ id, sid r = some id → m' id = m id) : Gr base m' n' r l := by
  obtain ⟨id, cap, rfl, h1, h2, h3, h4⟩ := h
  exact ⟨id, cap, rfl, h1, by omega, by rw [hm id rfl]; exact h3, h4⟩

end Go.Proofs.YtpleidpbapgmiaaDoor.Sy.Cu
