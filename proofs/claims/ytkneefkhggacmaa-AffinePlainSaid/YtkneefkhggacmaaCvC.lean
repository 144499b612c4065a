/- Curves: rows of points, and their halves. Conditions: those that each theorem names. -/
import Derived.Test.YtkneefkhggacmaaCvB
namespace Go.Proofs.Ytkneefkhggacmaa.Sy
open Go Go.Proofs
set_option linter.unusedSimpArgs false
set_option linter.unusedVariables false
attribute [local go_sem] R_nil R_mv R_pick R_alloc R_box R_build R_bslice R_load1 R_loadA R_store R_nilchk R_bin R_beq R_eqv R_eqnil R_un R_conv R_mkfn R_mkslice R_slS R_slA R_fadr R_fld R_iadrA R_iadrS R_idxA R_ext R_len R_lenC R_cap R_app R_cpy R_mn R_mx
  evalOp evO evOs upd_upd upd_at unfrz_at putE_some putE_none Then_some X_seq X_reg X_dreg X_ureg X_ret X_skip X_exit X_block X_condK condK_bool Next_n Next_x Next_r Out_n Out_x Out_r Ret_n Ret_r
  bin_shr1 bin_add bin_sub bin_mul bin_lss bin_leq bin_gtr bin_geq bin_eql bin_neq un_not un_neg boolOf_b boolOf_tup R_guard Option.map_some evRes pack_one pack_two pack_three pack_none List.getD_cons_zero List.getD_cons_succ getD_nil
  Option.some.injEq exists_eq_left' Reg.cs? fillC setL List.set_cons_zero List.set_cons_succ List.length_cons List.length_nil rd_upd rdB wr List.drop_zero List.drop_succ_cons List.take_succ_cons List.take_zero List.getElem?_cons_zero List.getElem?_cons_succ
  ix Int.toNat_zero lenO_sl lenO_nil sn1 ns1 sn2 ns2 sn3 ns3 sn4 ns4 sn5 ns5 sn6 ns6 sn7 ns7 sn8 ns8 sn9 ns9 sn10 ns10 sn11 ns11 sn12 ns12 sk1_2 sk1_3 sk1_4 sk1_5 sk1_6 sk1_7 sk1_8 sk2_1 sk2_3 sk2_4 sk2_5 sk2_6 sk2_7 sk2_8 sk3_1 sk3_2 sk3_4 sk3_5 sk3_6 sk3_7 sk3_8 sk4_1 sk4_2 sk4_3 sk4_5 sk4_6 sk4_7 sk4_8 sk5_1 sk5_2 sk5_3 sk5_4 sk5_6 sk5_7 sk5_8 sk6_1 sk6_2 sk6_3 sk6_4 sk6_5 sk6_7 sk6_8 sk7_1 sk7_2 sk7_3 sk7_4 sk7_5 sk7_6 sk7_8 sk8_1 sk8_2 sk8_3 sk8_4 sk8_5 sk8_6 sk8_7

def mid (p q : Pt) : Pt := ⟨(p.x + q.x) / 2, (p.y + q.y) / 2⟩
theorem inRm_iff {a : Int} : inRm a = true ↔ -2147483648 ≤ a ∧ a ≤ 2147483648 := by simp [inRm]
theorem inP_iff {p : Pt} : inP p = true ↔ (-2147483648 ≤ p.x ∧ p.x ≤ 2147483648) ∧ (-2147483648 ≤ p.y ∧ p.y ≤ 2147483648) := by simp [inP, inRm_iff]
theorem inP_mid {p q : Pt} (hp : inP p = true) (hq : inP q = true) : inP (mid p q) = true := by
  rw [inP_iff] at *
  simp only [mid]
  omega
theorem Mid (p q : Pt) (hp : inP p = true) (hq : inP q = true) (m : Mem) (n : Nat) : Fn TA 47 [p.r, q.r] m n (fun r _ _ => r = (mid p q).r) := by
  refine (Mid47 p q m n).mono ?_
  rintro _ _ _ rfl
  rw [inP_iff] at *
  rw [wr_eq (by omega) (by omega), wr_eq (by omega) (by omega)]
  rfl

inductive Cv where
  | quad (a b c : Pt)
  | cub (a b c d : Pt)
def Cv.row : Cv → List Cell
  | .quad a b c => [I a.x, I a.y, I b.x, I b.y, I c.x, I c.y, I 0, I 0, I 3]
  | .cub a b c d => [I a.x, I a.y, I b.x, I b.y, I c.x, I c.y, I d.x, I d.y, I 4]
def Cv.inP : Cv → Bool
  | .quad a b c => Sy.inP a && Sy.inP b && Sy.inP c
  | .cub a b c d => Sy.inP a && Sy.inP b && Sy.inP c && Sy.inP d
def Cv.fst : Cv → Cv
  | .quad a b c => .quad a (mid a b) (mid (mid a b) (mid b c))
  | .cub a b c d => .cub a (mid a b) (mid (mid a b) (mid b c)) (mid (mid (mid a b) (mid b c)) (mid (mid b c) (mid c d)))
def Cv.snd : Cv → Cv
  | .quad a b c => .quad (mid (mid a b) (mid b c)) (mid b c) c
  | .cub a b c d => .cub (mid (mid (mid a b) (mid b c)) (mid (mid b c) (mid c d))) (mid (mid b c) (mid c d)) (mid c d) d

set_option maxHeartbeats 4000000 in
theorem halves61q (a b c : Pt) (hv : (Cv.quad a b c).inP = true) (m : Mem) (n : Nat) : Fn TA 61 [.agg (Cv.quad a b c).row] m n (fun r _ _ => r = .tup [.agg (Cv.quad a b c).fst.row, .agg (Cv.quad a b c).snd.row]) := by
    refine Fn_of (fn := F61) rfl (by simp [F61]) ?_
    obtain ⟨L, hL⟩ : ∃ L_, L_ = SC.loop l61_0 := ⟨_, rfl⟩
    have hX : ∀ s Q, X TA l61_0 s (Next Q (fun s_ => X TA L s_ Q)) → X TA L s Q := by subst hL; exact fun _ _ h => X_loop h
    obtain ⟨L1, hL1⟩ : ∃ L_, L_ = SC.loop l61_1 := ⟨_, rfl⟩
    have hX1 : ∀ s Q, X TA l61_1 s (Next Q (fun s_ => X TA L1 s_ Q)) → X TA L1 s Q := by subst hL1; exact fun _ _ h => X_loop h
    simp only [Cv.inP, Bool.and_eq_true] at hv
    obtain ⟨⟨ha, hb⟩, hc⟩ := hv
    have hab := inP_mid ha hb
    have hbc := inP_mid hb hc
    have wi : ∀ k : Int, -100 ≤ k → k ≤ 100 → IntKind.i64.wrap k = k := fun k h1 h2 => wr_eq (by omega) (by omega)
    have w2 : IntKind.i64.wrap 2 = 2 := by decide
    simp only [F61, c61, r61_0, r61_1, r61_2, Cv.row, ← hL, ← hL1, disOk, List.all_cons, List.all_nil, idOf, List.replicate, go_sem, bne_iff_ne, Int.cast_ofNat_Int, ↓reduceIte, Nat.reduceEqDiff, Nat.reduceAdd, Nat.reduceMul, Nat.reduceLeDiff, Nat.reduceSub, Nat.reduceLT, Int.reduceToNat, Int.reduceLT, Int.reduceLE, reduceCtorEq, Nat.zero_add, Nat.add_zero, and_self, and_true, true_and, ne_eq, not_false_eq_true, not_true_eq_false, decide_true, decide_false, Bool.false_eq_true, Bool.not_true, Bool.not_false, Bool.true_and, Bool.and_true, Bool.or_false, Bool.false_or, Bool.and_self]
    refine hX1 _ _ ?_
    simp only [l61_1, ← hL, r61_3, r61_4, r61_5, r61_6, r61_7, disOk, List.all_cons, List.all_nil, idOf, wi, w2, Int.reduceNeg, Int.reduceSub, Int.reduceAdd, go_sem, bne_iff_ne, Int.cast_ofNat_Int, ↓reduceIte, Nat.reduceEqDiff, Nat.reduceAdd, Nat.reduceMul, Nat.reduceLeDiff, Nat.reduceSub, Nat.reduceLT, Int.reduceToNat, Int.reduceLT, Int.reduceLE, reduceCtorEq, Nat.zero_add, Nat.add_zero, and_self, and_true, true_and, ne_eq, not_false_eq_true, not_true_eq_false, decide_true, decide_false, Bool.false_eq_true, Bool.not_true, Bool.not_false, Bool.true_and, Bool.and_true, Bool.or_false, Bool.false_or, Bool.and_self]
    refine hX _ _ ?_
    simp only [l61_0, r61_8, r61_9, r61_10, wi, w2, Int.reduceAdd, Int.reduceSub, go_sem, bne_iff_ne, Int.cast_ofNat_Int, ↓reduceIte, Nat.reduceEqDiff, Nat.reduceAdd, Nat.reduceMul, Nat.reduceLeDiff, Nat.reduceSub, Nat.reduceLT, Int.reduceToNat, Int.reduceLT, Int.reduceLE, reduceCtorEq, Nat.zero_add, Nat.add_zero, and_self, and_true, true_and, ne_eq, not_false_eq_true, not_true_eq_false, decide_true, decide_false, Bool.false_eq_true, Bool.not_true, Bool.not_false, Bool.true_and, Bool.and_true, Bool.or_false, Bool.false_or, Bool.and_self]
    refine R_callz (by first | (simp only [flats, Reg.flat, Cell.flat, List.all_cons, List.all_nil, Bool.and_self, go_sem, bne_iff_ne, Int.cast_ofNat_Int, ↓reduceIte, Nat.reduceEqDiff, Nat.reduceAdd, Nat.reduceMul, Nat.reduceLeDiff, Nat.reduceSub, Nat.reduceLT, Int.reduceToNat, Int.reduceLT, Int.reduceLE, reduceCtorEq, Nat.zero_add, Nat.add_zero, and_self, and_true, true_and, ne_eq, not_false_eq_true, not_true_eq_false, decide_true, decide_false, Bool.false_eq_true, Bool.not_true, Bool.not_false, Bool.true_and, Bool.and_true, Bool.or_false, Bool.false_or, Bool.and_self]; done) | rfl) ?_
    try simp only [go_sem, bne_iff_ne, Int.cast_ofNat_Int, ↓reduceIte, Nat.reduceEqDiff, Nat.reduceAdd, Nat.reduceMul, Nat.reduceLeDiff, Nat.reduceSub, Nat.reduceLT, Int.reduceToNat, Int.reduceLT, Int.reduceLE, reduceCtorEq, Nat.zero_add, Nat.add_zero, and_self, and_true, true_and, ne_eq, not_false_eq_true, not_true_eq_false, decide_true, decide_false, Bool.false_eq_true, Bool.not_true, Bool.not_false, Bool.true_and, Bool.and_true, Bool.or_false, Bool.false_or, Bool.and_self]
    refine Fn.mono (Mid (a) (b) ha hb _ _) ?_
    rintro _ _ _ rfl
    refine ⟨rfl, ?_⟩
    try simp only [r61_11, wi, w2, Int.reduceAdd, go_sem, bne_iff_ne, Int.cast_ofNat_Int, ↓reduceIte, Nat.reduceEqDiff, Nat.reduceAdd, Nat.reduceMul, Nat.reduceLeDiff, Nat.reduceSub, Nat.reduceLT, Int.reduceToNat, Int.reduceLT, Int.reduceLE, reduceCtorEq, Nat.zero_add, Nat.add_zero, and_self, and_true, true_and, ne_eq, not_false_eq_true, not_true_eq_false, decide_true, decide_false, Bool.false_eq_true, Bool.not_true, Bool.not_false, Bool.true_and, Bool.and_true, Bool.or_false, Bool.false_or, Bool.and_self]
    refine hX _ _ ?_
    simp only [l61_0, r61_8, r61_9, r61_10, wi, w2, Int.reduceAdd, Int.reduceSub, go_sem, bne_iff_ne, Int.cast_ofNat_Int, ↓reduceIte, Nat.reduceEqDiff, Nat.reduceAdd, Nat.reduceMul, Nat.reduceLeDiff, Nat.reduceSub, Nat.reduceLT, Int.reduceToNat, Int.reduceLT, Int.reduceLE, reduceCtorEq, Nat.zero_add, Nat.add_zero, and_self, and_true, true_and, ne_eq, not_false_eq_true, not_true_eq_false, decide_true, decide_false, Bool.false_eq_true, Bool.not_true, Bool.not_false, Bool.true_and, Bool.and_true, Bool.or_false, Bool.false_or, Bool.and_self]
    refine R_callz (by first | (simp only [flats, Reg.flat, Cell.flat, List.all_cons, List.all_nil, Bool.and_self, go_sem, bne_iff_ne, Int.cast_ofNat_Int, ↓reduceIte, Nat.reduceEqDiff, Nat.reduceAdd, Nat.reduceMul, Nat.reduceLeDiff, Nat.reduceSub, Nat.reduceLT, Int.reduceToNat, Int.reduceLT, Int.reduceLE, reduceCtorEq, Nat.zero_add, Nat.add_zero, and_self, and_true, true_and, ne_eq, not_false_eq_true, not_true_eq_false, decide_true, decide_false, Bool.false_eq_true, Bool.not_true, Bool.not_false, Bool.true_and, Bool.and_true, Bool.or_false, Bool.false_or, Bool.and_self]; done) | rfl) ?_
    try simp only [go_sem, bne_iff_ne, Int.cast_ofNat_Int, ↓reduceIte, Nat.reduceEqDiff, Nat.reduceAdd, Nat.reduceMul, Nat.reduceLeDiff, Nat.reduceSub, Nat.reduceLT, Int.reduceToNat, Int.reduceLT, Int.reduceLE, reduceCtorEq, Nat.zero_add, Nat.add_zero, and_self, and_true, true_and, ne_eq, not_false_eq_true, not_true_eq_false, decide_true, decide_false, Bool.false_eq_true, Bool.not_true, Bool.not_false, Bool.true_and, Bool.and_true, Bool.or_false, Bool.false_or, Bool.and_self]
    refine Fn.mono (Mid (b) (c) hb hc _ _) ?_
    rintro _ _ _ rfl
    refine ⟨rfl, ?_⟩
    try simp only [r61_11, wi, w2, Int.reduceAdd, go_sem, bne_iff_ne, Int.cast_ofNat_Int, ↓reduceIte, Nat.reduceEqDiff, Nat.reduceAdd, Nat.reduceMul, Nat.reduceLeDiff, Nat.reduceSub, Nat.reduceLT, Int.reduceToNat, Int.reduceLT, Int.reduceLE, reduceCtorEq, Nat.zero_add, Nat.add_zero, and_self, and_true, true_and, ne_eq, not_false_eq_true, not_true_eq_false, decide_true, decide_false, Bool.false_eq_true, Bool.not_true, Bool.not_false, Bool.true_and, Bool.and_true, Bool.or_false, Bool.false_or, Bool.and_self]
    refine hX _ _ ?_
    simp only [l61_0, r61_8, r61_12, wi, w2, Int.reduceAdd, go_sem, bne_iff_ne, Int.cast_ofNat_Int, ↓reduceIte, Nat.reduceEqDiff, Nat.reduceAdd, Nat.reduceMul, Nat.reduceLeDiff, Nat.reduceSub, Nat.reduceLT, Int.reduceToNat, Int.reduceLT, Int.reduceLE, reduceCtorEq, Nat.zero_add, Nat.add_zero, and_self, and_true, true_and, ne_eq, not_false_eq_true, not_true_eq_false, decide_true, decide_false, Bool.false_eq_true, Bool.not_true, Bool.not_false, Bool.true_and, Bool.and_true, Bool.or_false, Bool.false_or, Bool.and_self]
    refine hX1 _ _ ?_
    simp only [l61_1, ← hL, r61_3, r61_4, r61_5, r61_6, r61_7, disOk, List.all_cons, List.all_nil, idOf, wi, w2, Int.reduceNeg, Int.reduceSub, Int.reduceAdd, go_sem, bne_iff_ne, Int.cast_ofNat_Int, ↓reduceIte, Nat.reduceEqDiff, Nat.reduceAdd, Nat.reduceMul, Nat.reduceLeDiff, Nat.reduceSub, Nat.reduceLT, Int.reduceToNat, Int.reduceLT, Int.reduceLE, reduceCtorEq, Nat.zero_add, Nat.add_zero, and_self, and_true, true_and, ne_eq, not_false_eq_true, not_true_eq_false, decide_true, decide_false, Bool.false_eq_true, Bool.not_true, Bool.not_false, Bool.true_and, Bool.and_true, Bool.or_false, Bool.false_or, Bool.and_self]
    refine hX _ _ ?_
    simp only [l61_0, r61_8, r61_9, r61_10, wi, w2, Int.reduceAdd, Int.reduceSub, go_sem, bne_iff_ne, Int.cast_ofNat_Int, ↓reduceIte, Nat.reduceEqDiff, Nat.reduceAdd, Nat.reduceMul, Nat.reduceLeDiff, Nat.reduceSub, Nat.reduceLT, Int.reduceToNat, Int.reduceLT, Int.reduceLE, reduceCtorEq, Nat.zero_add, Nat.add_zero, and_self, and_true, true_and, ne_eq, not_false_eq_true, not_true_eq_false, decide_true, decide_false, Bool.false_eq_true, Bool.not_true, Bool.not_false, Bool.true_and, Bool.and_true, Bool.or_false, Bool.false_or, Bool.and_self]
    refine R_callz (by first | (simp only [flats, Reg.flat, Cell.flat, List.all_cons, List.all_nil, Bool.and_self, go_sem, bne_iff_ne, Int.cast_ofNat_Int, ↓reduceIte, Nat.reduceEqDiff, Nat.reduceAdd, Nat.reduceMul, Nat.reduceLeDiff, Nat.reduceSub, Nat.reduceLT, Int.reduceToNat, Int.reduceLT, Int.reduceLE, reduceCtorEq, Nat.zero_add, Nat.add_zero, and_self, and_true, true_and, ne_eq, not_false_eq_true, not_true_eq_false, decide_true, decide_false, Bool.false_eq_true, Bool.not_true, Bool.not_false, Bool.true_and, Bool.and_true, Bool.or_false, Bool.false_or, Bool.and_self]; done) | rfl) ?_
    try simp only [go_sem, bne_iff_ne, Int.cast_ofNat_Int, ↓reduceIte, Nat.reduceEqDiff, Nat.reduceAdd, Nat.reduceMul, Nat.reduceLeDiff, Nat.reduceSub, Nat.reduceLT, Int.reduceToNat, Int.reduceLT, Int.reduceLE, reduceCtorEq, Nat.zero_add, Nat.add_zero, and_self, and_true, true_and, ne_eq, not_false_eq_true, not_true_eq_false, decide_true, decide_false, Bool.false_eq_true, Bool.not_true, Bool.not_false, Bool.true_and, Bool.and_true, Bool.or_false, Bool.false_or, Bool.and_self]
    refine Fn.mono (Mid (mid a b) (mid b c) hab hbc _ _) ?_
    rintro _ _ _ rfl
    refine ⟨rfl, ?_⟩
    try simp only [r61_11, wi, w2, Int.reduceAdd, go_sem, bne_iff_ne, Int.cast_ofNat_Int, ↓reduceIte, Nat.reduceEqDiff, Nat.reduceAdd, Nat.reduceMul, Nat.reduceLeDiff, Nat.reduceSub, Nat.reduceLT, Int.reduceToNat, Int.reduceLT, Int.reduceLE, reduceCtorEq, Nat.zero_add, Nat.add_zero, and_self, and_true, true_and, ne_eq, not_false_eq_true, not_true_eq_false, decide_true, decide_false, Bool.false_eq_true, Bool.not_true, Bool.not_false, Bool.true_and, Bool.and_true, Bool.or_false, Bool.false_or, Bool.and_self]
    refine hX _ _ ?_
    simp only [l61_0, r61_8, r61_12, wi, w2, Int.reduceAdd, go_sem, bne_iff_ne, Int.cast_ofNat_Int, ↓reduceIte, Nat.reduceEqDiff, Nat.reduceAdd, Nat.reduceMul, Nat.reduceLeDiff, Nat.reduceSub, Nat.reduceLT, Int.reduceToNat, Int.reduceLT, Int.reduceLE, reduceCtorEq, Nat.zero_add, Nat.add_zero, and_self, and_true, true_and, ne_eq, not_false_eq_true, not_true_eq_false, decide_true, decide_false, Bool.false_eq_true, Bool.not_true, Bool.not_false, Bool.true_and, Bool.and_true, Bool.or_false, Bool.false_or, Bool.and_self]
    refine hX1 _ _ ?_
    simp only [l61_1, ← hL, r61_3, r61_4, r61_5, r61_6, r61_7, disOk, List.all_cons, List.all_nil, idOf, wi, w2, Int.reduceNeg, Int.reduceSub, Int.reduceAdd, go_sem, bne_iff_ne, Int.cast_ofNat_Int, ↓reduceIte, Nat.reduceEqDiff, Nat.reduceAdd, Nat.reduceMul, Nat.reduceLeDiff, Nat.reduceSub, Nat.reduceLT, Int.reduceToNat, Int.reduceLT, Int.reduceLE, reduceCtorEq, Nat.zero_add, Nat.add_zero, and_self, and_true, true_and, ne_eq, not_false_eq_true, not_true_eq_false, decide_true, decide_false, Bool.false_eq_true, Bool.not_true, Bool.not_false, Bool.true_and, Bool.and_true, Bool.or_false, Bool.false_or, Bool.and_self]
    refine hX _ _ ?_
    simp only [l61_0, r61_8, r61_12, wi, w2, Int.reduceAdd, go_sem, bne_iff_ne, Int.cast_ofNat_Int, ↓reduceIte, Nat.reduceEqDiff, Nat.reduceAdd, Nat.reduceMul, Nat.reduceLeDiff, Nat.reduceSub, Nat.reduceLT, Int.reduceToNat, Int.reduceLT, Int.reduceLE, reduceCtorEq, Nat.zero_add, Nat.add_zero, and_self, and_true, true_and, ne_eq, not_false_eq_true, not_true_eq_false, decide_true, decide_false, Bool.false_eq_true, Bool.not_true, Bool.not_false, Bool.true_and, Bool.and_true, Bool.or_false, Bool.false_or, Bool.and_self]
    refine hX1 _ _ ?_
    simp only [l61_1, r61_3, r61_13, disOk, List.all_cons, List.all_nil, idOf, Cv.fst, Cv.snd, Cv.row, go_sem, bne_iff_ne, Int.cast_ofNat_Int, ↓reduceIte, Nat.reduceEqDiff, Nat.reduceAdd, Nat.reduceMul, Nat.reduceLeDiff, Nat.reduceSub, Nat.reduceLT, Int.reduceToNat, Int.reduceLT, Int.reduceLE, reduceCtorEq, Nat.zero_add, Nat.add_zero, and_self, and_true, true_and, ne_eq, not_false_eq_true, not_true_eq_false, decide_true, decide_false, Bool.false_eq_true, Bool.not_true, Bool.not_false, Bool.true_and, Bool.and_true, Bool.or_false, Bool.false_or, Bool.and_self]

set_option maxHeartbeats 8000000 in
theorem halves61c (a b c d : Pt) (hv : (Cv.cub a b c d).inP = true) (m : Mem) (n : Nat) : Fn TA 61 [.agg (Cv.cub a b c d).row] m n (fun r _ _ => r = .tup [.agg (Cv.cub a b c d).fst.row, .agg (Cv.cub a b c d).snd.row]) := by
    refine Fn_of (fn := F61) rfl (by simp [F61]) ?_
    obtain ⟨L, hL⟩ : ∃ L_, L_ = SC.loop l61_0 := ⟨_, rfl⟩
    have hX : ∀ s Q, X TA l61_0 s (Next Q (fun s_ => X TA L s_ Q)) → X TA L s Q := by subst hL; exact fun _ _ h => X_loop h
    obtain ⟨L1, hL1⟩ : ∃ L_, L_ = SC.loop l61_1 := ⟨_, rfl⟩
    have hX1 : ∀ s Q, X TA l61_1 s (Next Q (fun s_ => X TA L1 s_ Q)) → X TA L1 s Q := by subst hL1; exact fun _ _ h => X_loop h
    simp only [Cv.inP, Bool.and_eq_true] at hv
    obtain ⟨⟨⟨ha, hb⟩, hc⟩, hd⟩ := hv
    have hab := inP_mid ha hb
    have hbc := inP_mid hb hc
    have hcd := inP_mid hc hd
    have habc := inP_mid hab hbc
    have hbcd := inP_mid hbc hcd
    have wi : ∀ k : Int, -100 ≤ k → k ≤ 100 → IntKind.i64.wrap k = k := fun k h1 h2 => wr_eq (by omega) (by omega)
    have w2 : IntKind.i64.wrap 2 = 2 := by decide
    simp only [F61, c61, r61_0, r61_1, r61_2, Cv.row, ← hL, ← hL1, disOk, List.all_cons, List.all_nil, idOf, List.replicate, go_sem, bne_iff_ne, Int.cast_ofNat_Int, ↓reduceIte, Nat.reduceEqDiff, Nat.reduceAdd, Nat.reduceMul, Nat.reduceLeDiff, Nat.reduceSub, Nat.reduceLT, Int.reduceToNat, Int.reduceLT, Int.reduceLE, reduceCtorEq, Nat.zero_add, Nat.add_zero, and_self, and_true, true_and, ne_eq, not_false_eq_true, not_true_eq_false, decide_true, decide_false, Bool.false_eq_true, Bool.not_true, Bool.not_false, Bool.true_and, Bool.and_true, Bool.or_false, Bool.false_or, Bool.and_self]
    refine hX1 _ _ ?_
    simp only [l61_1, ← hL, r61_3, r61_4, r61_5, r61_6, r61_7, disOk, List.all_cons, List.all_nil, idOf, wi, w2, Int.reduceNeg, Int.reduceSub, Int.reduceAdd, go_sem, bne_iff_ne, Int.cast_ofNat_Int, ↓reduceIte, Nat.reduceEqDiff, Nat.reduceAdd, Nat.reduceMul, Nat.reduceLeDiff, Nat.reduceSub, Nat.reduceLT, Int.reduceToNat, Int.reduceLT, Int.reduceLE, reduceCtorEq, Nat.zero_add, Nat.add_zero, and_self, and_true, true_and, ne_eq, not_false_eq_true, not_true_eq_false, decide_true, decide_false, Bool.false_eq_true, Bool.not_true, Bool.not_false, Bool.true_and, Bool.and_true, Bool.or_false, Bool.false_or, Bool.and_self]
    refine hX _ _ ?_
    simp only [l61_0, r61_8, r61_9, r61_10, wi, w2, Int.reduceAdd, Int.reduceSub, go_sem, bne_iff_ne, Int.cast_ofNat_Int, ↓reduceIte, Nat.reduceEqDiff, Nat.reduceAdd, Nat.reduceMul, Nat.reduceLeDiff, Nat.reduceSub, Nat.reduceLT, Int.reduceToNat, Int.reduceLT, Int.reduceLE, reduceCtorEq, Nat.zero_add, Nat.add_zero, and_self, and_true, true_and, ne_eq, not_false_eq_true, not_true_eq_false, decide_true, decide_false, Bool.false_eq_true, Bool.not_true, Bool.not_false, Bool.true_and, Bool.and_true, Bool.or_false, Bool.false_or, Bool.and_self]
    refine R_callz (by first | (simp only [flats, Reg.flat, Cell.flat, List.all_cons, List.all_nil, Bool.and_self, go_sem, bne_iff_ne, Int.cast_ofNat_Int, ↓reduceIte, Nat.reduceEqDiff, Nat.reduceAdd, Nat.reduceMul, Nat.reduceLeDiff, Nat.reduceSub, Nat.reduceLT, Int.reduceToNat, Int.reduceLT, Int.reduceLE, reduceCtorEq, Nat.zero_add, Nat.add_zero, and_self, and_true, true_and, ne_eq, not_false_eq_true, not_true_eq_false, decide_true, decide_false, Bool.false_eq_true, Bool.not_true, Bool.not_false, Bool.true_and, Bool.and_true, Bool.or_false, Bool.false_or, Bool.and_self]; done) | rfl) ?_
    try simp only [go_sem, bne_iff_ne, Int.cast_ofNat_Int, ↓reduceIte, Nat.reduceEqDiff, Nat.reduceAdd, Nat.reduceMul, Nat.reduceLeDiff, Nat.reduceSub, Nat.reduceLT, Int.reduceToNat, Int.reduceLT, Int.reduceLE, reduceCtorEq, Nat.zero_add, Nat.add_zero, and_self, and_true, true_and, ne_eq, not_false_eq_true, not_true_eq_false, decide_true, decide_false, Bool.false_eq_true, Bool.not_true, Bool.not_false, Bool.true_and, Bool.and_true, Bool.or_false, Bool.false_or, Bool.and_self]
    refine Fn.mono (Mid (a) (b) ha hb _ _) ?_
    rintro _ _ _ rfl
    refine ⟨rfl, ?_⟩
    try simp only [r61_11, wi, w2, Int.reduceAdd, go_sem, bne_iff_ne, Int.cast_ofNat_Int, ↓reduceIte, Nat.reduceEqDiff, Nat.reduceAdd, Nat.reduceMul, Nat.reduceLeDiff, Nat.reduceSub, Nat.reduceLT, Int.reduceToNat, Int.reduceLT, Int.reduceLE, reduceCtorEq, Nat.zero_add, Nat.add_zero, and_self, and_true, true_and, ne_eq, not_false_eq_true, not_true_eq_false, decide_true, decide_false, Bool.false_eq_true, Bool.not_true, Bool.not_false, Bool.true_and, Bool.and_true, Bool.or_false, Bool.false_or, Bool.and_self]
    refine hX _ _ ?_
    simp only [l61_0, r61_8, r61_9, r61_10, wi, w2, Int.reduceAdd, Int.reduceSub, go_sem, bne_iff_ne, Int.cast_ofNat_Int, ↓reduceIte, Nat.reduceEqDiff, Nat.reduceAdd, Nat.reduceMul, Nat.reduceLeDiff, Nat.reduceSub, Nat.reduceLT, Int.reduceToNat, Int.reduceLT, Int.reduceLE, reduceCtorEq, Nat.zero_add, Nat.add_zero, and_self, and_true, true_and, ne_eq, not_false_eq_true, not_true_eq_false, decide_true, decide_false, Bool.false_eq_true, Bool.not_true, Bool.not_false, Bool.true_and, Bool.and_true, Bool.or_false, Bool.false_or, Bool.and_self]
    refine R_callz (by first | (simp only [flats, Reg.flat, Cell.flat, List.all_cons, List.all_nil, Bool.and_self, go_sem, bne_iff_ne, Int.cast_ofNat_Int, ↓reduceIte, Nat.reduceEqDiff, Nat.reduceAdd, Nat.reduceMul, Nat.reduceLeDiff, Nat.reduceSub, Nat.reduceLT, Int.reduceToNat, Int.reduceLT, Int.reduceLE, reduceCtorEq, Nat.zero_add, Nat.add_zero, and_self, and_true, true_and, ne_eq, not_false_eq_true, not_true_eq_false, decide_true, decide_false, Bool.false_eq_true, Bool.not_true, Bool.not_false, Bool.true_and, Bool.and_true, Bool.or_false, Bool.false_or, Bool.and_self]; done) | rfl) ?_
    try simp only [go_sem, bne_iff_ne, Int.cast_ofNat_Int, ↓reduceIte, Nat.reduceEqDiff, Nat.reduceAdd, Nat.reduceMul, Nat.reduceLeDiff, Nat.reduceSub, Nat.reduceLT, Int.reduceToNat, Int.reduceLT, Int.reduceLE, reduceCtorEq, Nat.zero_add, Nat.add_zero, and_self, and_true, true_and, ne_eq, not_false_eq_true, not_true_eq_false, decide_true, decide_false, Bool.false_eq_true, Bool.not_true, Bool.not_false, Bool.true_and, Bool.and_true, Bool.or_false, Bool.false_or, Bool.and_self]
    refine Fn.mono (Mid (b) (c) hb hc _ _) ?_
    rintro _ _ _ rfl
    refine ⟨rfl, ?_⟩
    try simp only [r61_11, wi, w2, Int.reduceAdd, go_sem, bne_iff_ne, Int.cast_ofNat_Int, ↓reduceIte, Nat.reduceEqDiff, Nat.reduceAdd, Nat.reduceMul, Nat.reduceLeDiff, Nat.reduceSub, Nat.reduceLT, Int.reduceToNat, Int.reduceLT, Int.reduceLE, reduceCtorEq, Nat.zero_add, Nat.add_zero, and_self, and_true, true_and, ne_eq, not_false_eq_true, not_true_eq_false, decide_true, decide_false, Bool.false_eq_true, Bool.not_true, Bool.not_false, Bool.true_and, Bool.and_true, Bool.or_false, Bool.false_or, Bool.and_self]
    refine hX _ _ ?_
    simp only [l61_0, r61_8, r61_9, r61_10, wi, w2, Int.reduceAdd, Int.reduceSub, go_sem, bne_iff_ne, Int.cast_ofNat_Int, ↓reduceIte, Nat.reduceEqDiff, Nat.reduceAdd, Nat.reduceMul, Nat.reduceLeDiff, Nat.reduceSub, Nat.reduceLT, Int.reduceToNat, Int.reduceLT, Int.reduceLE, reduceCtorEq, Nat.zero_add, Nat.add_zero, and_self, and_true, true_and, ne_eq, not_false_eq_true, not_true_eq_false, decide_true, decide_false, Bool.false_eq_true, Bool.not_true, Bool.not_false, Bool.true_and, Bool.and_true, Bool.or_false, Bool.false_or, Bool.and_self]
    refine R_callz (by first | (simp only [flats, Reg.flat, Cell.flat, List.all_cons, List.all_nil, Bool.and_self, go_sem, bne_iff_ne, Int.cast_ofNat_Int, ↓reduceIte, Nat.reduceEqDiff, Nat.reduceAdd, Nat.reduceMul, Nat.reduceLeDiff, Nat.reduceSub, Nat.reduceLT, Int.reduceToNat, Int.reduceLT, Int.reduceLE, reduceCtorEq, Nat.zero_add, Nat.add_zero, and_self, and_true, true_and, ne_eq, not_false_eq_true, not_true_eq_false, decide_true, decide_false, Bool.false_eq_true, Bool.not_true, Bool.not_false, Bool.true_and, Bool.and_true, Bool.or_false, Bool.false_or, Bool.and_self]; done) | rfl) ?_
    try simp only [go_sem, bne_iff_ne, Int.cast_ofNat_Int, ↓reduceIte, Nat.reduceEqDiff, Nat.reduceAdd, Nat.reduceMul, Nat.reduceLeDiff, Nat.reduceSub, Nat.reduceLT, Int.reduceToNat, Int.reduceLT, Int.reduceLE, reduceCtorEq, Nat.zero_add, Nat.add_zero, and_self, and_true, true_and, ne_eq, not_false_eq_true, not_true_eq_false, decide_true, decide_false, Bool.false_eq_true, Bool.not_true, Bool.not_false, Bool.true_and, Bool.and_true, Bool.or_false, Bool.false_or, Bool.and_self]
    refine Fn.mono (Mid (c) (d) hc hd _ _) ?_
    rintro _ _ _ rfl
    refine ⟨rfl, ?_⟩
    try simp only [r61_11, wi, w2, Int.reduceAdd, go_sem, bne_iff_ne, Int.cast_ofNat_Int, ↓reduceIte, Nat.reduceEqDiff, Nat.reduceAdd, Nat.reduceMul, Nat.reduceLeDiff, Nat.reduceSub, Nat.reduceLT, Int.reduceToNat, Int.reduceLT, Int.reduceLE, reduceCtorEq, Nat.zero_add, Nat.add_zero, and_self, and_true, true_and, ne_eq, not_false_eq_true, not_true_eq_false, decide_true, decide_false, Bool.false_eq_true, Bool.not_true, Bool.not_false, Bool.true_and, Bool.and_true, Bool.or_false, Bool.false_or, Bool.and_self]
    refine hX _ _ ?_
    simp only [l61_0, r61_8, r61_12, wi, w2, Int.reduceAdd, go_sem, bne_iff_ne, Int.cast_ofNat_Int, ↓reduceIte, Nat.reduceEqDiff, Nat.reduceAdd, Nat.reduceMul, Nat.reduceLeDiff, Nat.reduceSub, Nat.reduceLT, Int.reduceToNat, Int.reduceLT, Int.reduceLE, reduceCtorEq, Nat.zero_add, Nat.add_zero, and_self, and_true, true_and, ne_eq, not_false_eq_true, not_true_eq_false, decide_true, decide_false, Bool.false_eq_true, Bool.not_true, Bool.not_false, Bool.true_and, Bool.and_true, Bool.or_false, Bool.false_or, Bool.and_self]
    refine hX1 _ _ ?_
    simp only [l61_1, ← hL, r61_3, r61_4, r61_5, r61_6, r61_7, disOk, List.all_cons, List.all_nil, idOf, wi, w2, Int.reduceNeg, Int.reduceSub, Int.reduceAdd, go_sem, bne_iff_ne, Int.cast_ofNat_Int, ↓reduceIte, Nat.reduceEqDiff, Nat.reduceAdd, Nat.reduceMul, Nat.reduceLeDiff, Nat.reduceSub, Nat.reduceLT, Int.reduceToNat, Int.reduceLT, Int.reduceLE, reduceCtorEq, Nat.zero_add, Nat.add_zero, and_self, and_true, true_and, ne_eq, not_false_eq_true, not_true_eq_false, decide_true, decide_false, Bool.false_eq_true, Bool.not_true, Bool.not_false, Bool.true_and, Bool.and_true, Bool.or_false, Bool.false_or, Bool.and_self]
    refine hX _ _ ?_
    simp only [l61_0, r61_8, r61_9, r61_10, wi, w2, Int.reduceAdd, Int.reduceSub, go_sem, bne_iff_ne, Int.cast_ofNat_Int, ↓reduceIte, Nat.reduceEqDiff, Nat.reduceAdd, Nat.reduceMul, Nat.reduceLeDiff, Nat.reduceSub, Nat.reduceLT, Int.reduceToNat, Int.reduceLT, Int.reduceLE, reduceCtorEq, Nat.zero_add, Nat.add_zero, and_self, and_true, true_and, ne_eq, not_false_eq_true, not_true_eq_false, decide_true, decide_false, Bool.false_eq_true, Bool.not_true, Bool.not_false, Bool.true_and, Bool.and_true, Bool.or_false, Bool.false_or, Bool.and_self]
    refine R_callz (by first | (simp only [flats, Reg.flat, Cell.flat, List.all_cons, List.all_nil, Bool.and_self, go_sem, bne_iff_ne, Int.cast_ofNat_Int, ↓reduceIte, Nat.reduceEqDiff, Nat.reduceAdd, Nat.reduceMul, Nat.reduceLeDiff, Nat.reduceSub, Nat.reduceLT, Int.reduceToNat, Int.reduceLT, Int.reduceLE, reduceCtorEq, Nat.zero_add, Nat.add_zero, and_self, and_true, true_and, ne_eq, not_false_eq_true, not_true_eq_false, decide_true, decide_false, Bool.false_eq_true, Bool.not_true, Bool.not_false, Bool.true_and, Bool.and_true, Bool.or_false, Bool.false_or, Bool.and_self]; done) | rfl) ?_
    try simp only [go_sem, bne_iff_ne, Int.cast_ofNat_Int, ↓reduceIte, Nat.reduceEqDiff, Nat.reduceAdd, Nat.reduceMul, Nat.reduceLeDiff, Nat.reduceSub, Nat.reduceLT, Int.reduceToNat, Int.reduceLT, Int.reduceLE, reduceCtorEq, Nat.zero_add, Nat.add_zero, and_self, and_true, true_and, ne_eq, not_false_eq_true, not_true_eq_false, decide_true, decide_false, Bool.false_eq_true, Bool.not_true, Bool.not_false, Bool.true_and, Bool.and_true, Bool.or_false, Bool.false_or, Bool.and_self]
    refine Fn.mono (Mid (mid a b) (mid b c) hab hbc _ _) ?_
    rintro _ _ _ rfl
    refine ⟨rfl, ?_⟩
    try simp only [r61_11, wi, w2, Int.reduceAdd, go_sem, bne_iff_ne, Int.cast_ofNat_Int, ↓reduceIte, Nat.reduceEqDiff, Nat.reduceAdd, Nat.reduceMul, Nat.reduceLeDiff, Nat.reduceSub, Nat.reduceLT, Int.reduceToNat, Int.reduceLT, Int.reduceLE, reduceCtorEq, Nat.zero_add, Nat.add_zero, and_self, and_true, true_and, ne_eq, not_false_eq_true, not_true_eq_false, decide_true, decide_false, Bool.false_eq_true, Bool.not_true, Bool.not_false, Bool.true_and, Bool.and_true, Bool.or_false, Bool.false_or, Bool.and_self]
    refine hX _ _ ?_
    simp only [l61_0, r61_8, r61_9, r61_10, wi, w2, Int.reduceAdd, Int.reduceSub, go_sem, bne_iff_ne, Int.cast_ofNat_Int, ↓reduceIte, Nat.reduceEqDiff, Nat.reduceAdd, Nat.reduceMul, Nat.reduceLeDiff, Nat.reduceSub, Nat.reduceLT, Int.reduceToNat, Int.reduceLT, Int.reduceLE, reduceCtorEq, Nat.zero_add, Nat.add_zero, and_self, and_true, true_and, ne_eq, not_false_eq_true, not_true_eq_false, decide_true, decide_false, Bool.false_eq_true, Bool.not_true, Bool.not_false, Bool.true_and, Bool.and_true, Bool.or_false, Bool.false_or, Bool.and_self]
    refine R_callz (by first | (simp only [flats, Reg.flat, Cell.flat, List.all_cons, List.all_nil, Bool.and_self, go_sem, bne_iff_ne, Int.cast_ofNat_Int, ↓reduceIte, Nat.reduceEqDiff, Nat.reduceAdd, Nat.reduceMul, Nat.reduceLeDiff, Nat.reduceSub, Nat.reduceLT, Int.reduceToNat, Int.reduceLT, Int.reduceLE, reduceCtorEq, Nat.zero_add, Nat.add_zero, and_self, and_true, true_and, ne_eq, not_false_eq_true, not_true_eq_false, decide_true, decide_false, Bool.false_eq_true, Bool.not_true, Bool.not_false, Bool.true_and, Bool.and_true, Bool.or_false, Bool.false_or, Bool.and_self]; done) | rfl) ?_
    try simp only [go_sem, bne_iff_ne, Int.cast_ofNat_Int, ↓reduceIte, Nat.reduceEqDiff, Nat.reduceAdd, Nat.reduceMul, Nat.reduceLeDiff, Nat.reduceSub, Nat.reduceLT, Int.reduceToNat, Int.reduceLT, Int.reduceLE, reduceCtorEq, Nat.zero_add, Nat.add_zero, and_self, and_true, true_and, ne_eq, not_false_eq_true, not_true_eq_false, decide_true, decide_false, Bool.false_eq_true, Bool.not_true, Bool.not_false, Bool.true_and, Bool.and_true, Bool.or_false, Bool.false_or, Bool.and_self]
    refine Fn.mono (Mid (mid b c) (mid c d) hbc hcd _ _) ?_
    rintro _ _ _ rfl
    refine ⟨rfl, ?_⟩
    try simp only [r61_11, wi, w2, Int.reduceAdd, go_sem, bne_iff_ne, Int.cast_ofNat_Int, ↓reduceIte, Nat.reduceEqDiff, Nat.reduceAdd, Nat.reduceMul, Nat.reduceLeDiff, Nat.reduceSub, Nat.reduceLT, Int.reduceToNat, Int.reduceLT, Int.reduceLE, reduceCtorEq, Nat.zero_add, Nat.add_zero, and_self, and_true, true_and, ne_eq, not_false_eq_true, not_true_eq_false, decide_true, decide_false, Bool.false_eq_true, Bool.not_true, Bool.not_false, Bool.true_and, Bool.and_true, Bool.or_false, Bool.false_or, Bool.and_self]
    refine hX _ _ ?_
    simp only [l61_0, r61_8, r61_12, wi, w2, Int.reduceAdd, go_sem, bne_iff_ne, Int.cast_ofNat_Int, ↓reduceIte, Nat.reduceEqDiff, Nat.reduceAdd, Nat.reduceMul, Nat.reduceLeDiff, Nat.reduceSub, Nat.reduceLT, Int.reduceToNat, Int.reduceLT, Int.reduceLE, reduceCtorEq, Nat.zero_add, Nat.add_zero, and_self, and_true, true_and, ne_eq, not_false_eq_true, not_true_eq_false, decide_true, decide_false, Bool.false_eq_true, Bool.not_true, Bool.not_false, Bool.true_and, Bool.and_true, Bool.or_false, Bool.false_or, Bool.and_self]
    refine hX1 _ _ ?_
    simp only [l61_1, ← hL, r61_3, r61_4, r61_5, r61_6, r61_7, disOk, List.all_cons, List.all_nil, idOf, wi, w2, Int.reduceNeg, Int.reduceSub, Int.reduceAdd, go_sem, bne_iff_ne, Int.cast_ofNat_Int, ↓reduceIte, Nat.reduceEqDiff, Nat.reduceAdd, Nat.reduceMul, Nat.reduceLeDiff, Nat.reduceSub, Nat.reduceLT, Int.reduceToNat, Int.reduceLT, Int.reduceLE, reduceCtorEq, Nat.zero_add, Nat.add_zero, and_self, and_true, true_and, ne_eq, not_false_eq_true, not_true_eq_false, decide_true, decide_false, Bool.false_eq_true, Bool.not_true, Bool.not_false, Bool.true_and, Bool.and_true, Bool.or_false, Bool.false_or, Bool.and_self]
    refine hX _ _ ?_
    simp only [l61_0, r61_8, r61_9, r61_10, wi, w2, Int.reduceAdd, Int.reduceSub, go_sem, bne_iff_ne, Int.cast_ofNat_Int, ↓reduceIte, Nat.reduceEqDiff, Nat.reduceAdd, Nat.reduceMul, Nat.reduceLeDiff, Nat.reduceSub, Nat.reduceLT, Int.reduceToNat, Int.reduceLT, Int.reduceLE, reduceCtorEq, Nat.zero_add, Nat.add_zero, and_self, and_true, true_and, ne_eq, not_false_eq_true, not_true_eq_false, decide_true, decide_false, Bool.false_eq_true, Bool.not_true, Bool.not_false, Bool.true_and, Bool.and_true, Bool.or_false, Bool.false_or, Bool.and_self]
    refine R_callz (by first | (simp only [flats, Reg.flat, Cell.flat, List.all_cons, List.all_nil, Bool.and_self, go_sem, bne_iff_ne, Int.cast_ofNat_Int, ↓reduceIte, Nat.reduceEqDiff, Nat.reduceAdd, Nat.reduceMul, Nat.reduceLeDiff, Nat.reduceSub, Nat.reduceLT, Int.reduceToNat, Int.reduceLT, Int.reduceLE, reduceCtorEq, Nat.zero_add, Nat.add_zero, and_self, and_true, true_and, ne_eq, not_false_eq_true, not_true_eq_false, decide_true, decide_false, Bool.false_eq_true, Bool.not_true, Bool.not_false, Bool.true_and, Bool.and_true, Bool.or_false, Bool.false_or, Bool.and_self]; done) | rfl) ?_
    try simp only [go_sem, bne_iff_ne, Int.cast_ofNat_Int, ↓reduceIte, Nat.reduceEqDiff, Nat.reduceAdd, Nat.reduceMul, Nat.reduceLeDiff, Nat.reduceSub, Nat.reduceLT, Int.reduceToNat, Int.reduceLT, Int.reduceLE, reduceCtorEq, Nat.zero_add, Nat.add_zero, and_self, and_true, true_and, ne_eq, not_false_eq_true, not_true_eq_false, decide_true, decide_false, Bool.false_eq_true, Bool.not_true, Bool.not_false, Bool.true_and, Bool.and_true, Bool.or_false, Bool.false_or, Bool.and_self]
    refine Fn.mono (Mid (mid (mid a b) (mid b c)) (mid (mid b c) (mid c d)) habc hbcd _ _) ?_
    rintro _ _ _ rfl
    refine ⟨rfl, ?_⟩
    try simp only [r61_11, wi, w2, Int.reduceAdd, go_sem, bne_iff_ne, Int.cast_ofNat_Int, ↓reduceIte, Nat.reduceEqDiff, Nat.reduceAdd, Nat.reduceMul, Nat.reduceLeDiff, Nat.reduceSub, Nat.reduceLT, Int.reduceToNat, Int.reduceLT, Int.reduceLE, reduceCtorEq, Nat.zero_add, Nat.add_zero, and_self, and_true, true_and, ne_eq, not_false_eq_true, not_true_eq_false, decide_true, decide_false, Bool.false_eq_true, Bool.not_true, Bool.not_false, Bool.true_and, Bool.and_true, Bool.or_false, Bool.false_or, Bool.and_self]
    refine hX _ _ ?_
    simp only [l61_0, r61_8, r61_12, wi, w2, Int.reduceAdd, go_sem, bne_iff_ne, Int.cast_ofNat_Int, ↓reduceIte, Nat.reduceEqDiff, Nat.reduceAdd, Nat.reduceMul, Nat.reduceLeDiff, Nat.reduceSub, Nat.reduceLT, Int.reduceToNat, Int.reduceLT, Int.reduceLE, reduceCtorEq, Nat.zero_add, Nat.add_zero, and_self, and_true, true_and, ne_eq, not_false_eq_true, not_true_eq_false, decide_true, decide_false, Bool.false_eq_true, Bool.not_true, Bool.not_false, Bool.true_and, Bool.and_true, Bool.or_false, Bool.false_or, Bool.and_self]
    refine hX1 _ _ ?_
    simp only [l61_1, ← hL, r61_3, r61_4, r61_5, r61_6, r61_7, disOk, List.all_cons, List.all_nil, idOf, wi, w2, Int.reduceNeg, Int.reduceSub, Int.reduceAdd, go_sem, bne_iff_ne, Int.cast_ofNat_Int, ↓reduceIte, Nat.reduceEqDiff, Nat.reduceAdd, Nat.reduceMul, Nat.reduceLeDiff, Nat.reduceSub, Nat.reduceLT, Int.reduceToNat, Int.reduceLT, Int.reduceLE, reduceCtorEq, Nat.zero_add, Nat.add_zero, and_self, and_true, true_and, ne_eq, not_false_eq_true, not_true_eq_false, decide_true, decide_false, Bool.false_eq_true, Bool.not_true, Bool.not_false, Bool.true_and, Bool.and_true, Bool.or_false, Bool.false_or, Bool.and_self]
    refine hX _ _ ?_
    simp only [l61_0, r61_8, r61_12, wi, w2, Int.reduceAdd, go_sem, bne_iff_ne, Int.cast_ofNat_Int, ↓reduceIte, Nat.reduceEqDiff, Nat.reduceAdd, Nat.reduceMul, Nat.reduceLeDiff, Nat.reduceSub, Nat.reduceLT, Int.reduceToNat, Int.reduceLT, Int.reduceLE, reduceCtorEq, Nat.zero_add, Nat.add_zero, and_self, and_true, true_and, ne_eq, not_false_eq_true, not_true_eq_false, decide_true, decide_false, Bool.false_eq_true, Bool.not_true, Bool.not_false, Bool.true_and, Bool.and_true, Bool.or_false, Bool.false_or, Bool.and_self]
    refine hX1 _ _ ?_
    simp only [l61_1, r61_3, r61_13, disOk, List.all_cons, List.all_nil, idOf, Cv.fst, Cv.snd, Cv.row, go_sem, bne_iff_ne, Int.cast_ofNat_Int, ↓reduceIte, Nat.reduceEqDiff, Nat.reduceAdd, Nat.reduceMul, Nat.reduceLeDiff, Nat.reduceSub, Nat.reduceLT, Int.reduceToNat, Int.reduceLT, Int.reduceLE, reduceCtorEq, Nat.zero_add, Nat.add_zero, and_self, and_true, true_and, ne_eq, not_false_eq_true, not_true_eq_false, decide_true, decide_false, Bool.false_eq_true, Bool.not_true, Bool.not_false, Bool.true_and, Bool.and_true, Bool.or_false, Bool.false_or, Bool.and_self]

theorem halves61 (v : Cv) (hv : v.inP = true) (m : Mem) (n : Nat) : Fn TA 61 [.agg v.row] m n (fun r _ _ => r = .tup [.agg v.fst.row, .agg v.snd.row]) := by
  cases v with
  | quad a b c => exact halves61q a b c hv m n
  | cub a b c d => exact halves61c a b c d hv m n
end Go.Proofs.Ytkneefkhggacmaa.Sy
