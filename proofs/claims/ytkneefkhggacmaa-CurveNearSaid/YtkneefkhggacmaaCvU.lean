/- Curves: the reference's weights. Conditions: those that each theorem names. -/
import Derived.Test.YtkneefkhggacmaaCvT
namespace Go.Proofs.Ytkneefkhggacmaa.Sy
open Go Go.Proofs
set_option linter.unusedSimpArgs false
set_option linter.unusedVariables false
attribute [local go_sem] R_nil R_mv R_pick R_alloc R_box R_build R_bslice R_load1 R_loadA R_store R_nilchk R_bin R_beq R_eqv R_eqnil R_un R_conv R_mkfn R_mkslice R_slS R_slA R_fadr R_fld R_iadrA R_iadrS R_idxA R_ext R_len R_lenC R_cap R_app R_cpy R_mn R_mx
  evalOp evO evOs upd_upd upd_at unfrz_at putE_some putE_none Then_some X_seq X_reg X_dreg X_ret X_skip X_exit X_block X_condK condK_bool Next_n Next_x Next_r Out_n Out_x Out_r Ret_n Ret_r
  bin_shr1 bin_add bin_sub bin_mul bin_lss bin_leq bin_gtr bin_geq bin_eql bin_neq un_not un_neg boolOf_b boolOf_tup R_guard Option.map_some evRes pack_one pack_two pack_three pack_none List.getD_cons_zero List.getD_cons_succ getD_nil
  Option.some.injEq exists_eq_left' Reg.cs? fillC setL List.set_cons_zero List.set_cons_succ List.length_cons List.length_nil rd_upd rdB wr List.drop_zero List.drop_succ_cons List.take_succ_cons List.take_zero List.getElem?_cons_zero List.getElem?_cons_succ
  ix Int.toNat_zero lenO_sl lenO_nil sn1 ns1 sn2 ns2 sn3 ns3 sn4 ns4 sn5 ns5 sn6 ns6 sn7 ns7 sn8 ns8 sn9 ns9 sn10 ns10 sn11 ns11 sn12 ns12 sk1_2 sk1_3 sk1_4 sk1_5 sk1_6 sk1_7 sk1_8 sk2_1 sk2_3 sk2_4 sk2_5 sk2_6 sk2_7 sk2_8 sk3_1 sk3_2 sk3_4 sk3_5 sk3_6 sk3_7 sk3_8 sk4_1 sk4_2 sk4_3 sk4_5 sk4_6 sk4_7 sk4_8 sk5_1 sk5_2 sk5_3 sk5_4 sk5_6 sk5_7 sk5_8 sk6_1 sk6_2 sk6_3 sk6_4 sk6_5 sk6_7 sk6_8 sk7_1 sk7_2 sk7_3 sk7_4 sk7_5 sk7_6 sk7_8 sk8_1 sk8_2 sk8_3 sk8_4 sk8_5 sk8_6 sk8_7

theorem w0 {x : Int} {K : Int} (h : 0 ≤ x ∧ x ≤ K) (hK : K ≤ 1000000000) : IntKind.i64.wrap x = x := wr_eq (by omega) (by omega)
theorem mul64 {x y X Y : Int} (hx : 0 ≤ x ∧ x ≤ X) (hy : 0 ≤ y ∧ y ≤ Y) (hX : 0 ≤ X) : 0 ≤ x * y ∧ x * y ≤ X * Y :=
  ⟨Int.mul_nonneg hx.1 hy.1, Int.le_trans (Int.mul_le_mul_of_nonneg_left hy.2 hx.1) (Int.mul_le_mul_of_nonneg_right hx.2 (Int.le_trans hy.1 hy.2))⟩

set_option maxRecDepth 20000 in
set_option maxHeartbeats 4000000 in
theorem weights3 (p q : Int) (dep : Nat) (hdep : dep ≤ 6) (hp : 0 ≤ p) (hq : 0 ≤ q) (hF : p + q = ((2 ^ dep : Nat) : Int)) (m : Mem) (n : Nat) :
    Fn TA 62 [RI 3, RI q, RI dep] m n (fun r' m' n' => n ≤ n' ∧ (∀ id, id < n → m' id = m id) ∧ ∃ id, r' = .one (.sl id 0 3 (some 3) 1) ∧ n ≤ id ∧ id < n' ∧ m' id = some ⟨[I (p * p), I (p * q + q * p), I (q * q)], true⟩) := by
  refine Fn_of (fn := F62) rfl (by simp [F62]) ?_
  obtain ⟨L, hL⟩ : ∃ L_, L_ = SC.loop l62_0 := ⟨_, rfl⟩
  have hX : ∀ s Q, X TA l62_0 s (Next Q (fun s_ => X TA L s_ Q)) → X TA L s Q := by subst hL; exact fun _ _ h => X_loop h
  obtain ⟨L1, hL1⟩ : ∃ L_, L_ = SC.loop l62_1 := ⟨_, rfl⟩
  have hX1 : ∀ s Q, X TA l62_1 s (Next Q (fun s_ => X TA L1 s_ Q)) → X TA L1 s Q := by subst hL1; exact fun _ _ h => X_loop h
  have h64 : p + q ≤ 64 := by
    have h2 : (2 : Nat) ^ dep ≤ 2 ^ 6 := Nat.pow_le_pow_right (by omega) hdep
    have h4 : (2 : Nat) ^ dep ≤ 64 := h2
    rw [hF]
    omega
  have bp : 0 ≤ p ∧ p ≤ 64 := by omega
  have bq : 0 ≤ q ∧ q ≤ 64 := by omega
  have bpp := mul64 bp bp (by decide)
  have bpq := mul64 bp bq (by decide)
  have bqp := mul64 bq bp (by decide)
  have bqq := mul64 bq bq (by decide)
  have wa : IntKind.i64.wrap (((2 ^ dep : Nat) : Int) - q) = p := by rw [← hF, wr_eq (by omega) (by omega)]; omega
  have wp : IntKind.i64.wrap p = p := w0 bp (by decide)
  have wq : IntKind.i64.wrap q = q := w0 bq (by decide)
  have wpp : IntKind.i64.wrap (p * p) = p * p := w0 bpp (by decide)
  have wpq : IntKind.i64.wrap (p * q) = p * q := w0 bpq (by decide)
  have wqp : IntKind.i64.wrap (q * p) = q * p := w0 bqp (by decide)
  have wqq : IntKind.i64.wrap (q * q) = q * q := w0 bqq (by decide)
  have wm : IntKind.i64.wrap (p * q + q * p) = p * q + q * p := wr_eq (by omega) (by omega)
  have wi : ∀ k : Int, -100 ≤ k → k ≤ 100 → IntKind.i64.wrap k = k := fun k h1 h2 => wr_eq (by omega) (by omega)
  have t1 : (1 : Int).toNat = 1 := rfl
  have t2 : (2 : Int).toNat = 2 := rfl
  have t3 : (3 : Int).toNat = 3 := rfl
  have hsh := bin_shl_small dep hdep
  simp only [F62, c62, r62_0, r62_1, r62_2, r62_3, hsh, ← hL, ← hL1, go_sem, bne_iff_ne, Int.cast_ofNat_Int, ↓reduceIte, Nat.reduceEqDiff, Nat.reduceAdd, Nat.reduceMul, Nat.reduceLeDiff, Nat.reduceSub, Nat.reduceLT, Int.reduceToNat, Int.reduceLT, Int.reduceLE, reduceCtorEq, Nat.zero_add, Nat.add_zero, and_self, and_true, true_and, ne_eq, not_false_eq_true, not_true_eq_false, decide_true, decide_false, Bool.false_eq_true, Bool.not_true, Bool.not_false, Bool.true_and, Bool.and_true, Bool.or_false, Bool.false_or, Bool.and_self]
  refine hX1 _ _ ?_
  simp only [l62_1, ← hL, r62_4, r62_6, r62_7, wi, Int.reduceAdd, List.replicate, List.flatten_cons, List.flatten_nil, List.cons_append, List.nil_append, t1, t2, go_sem, bne_iff_ne, Int.cast_ofNat_Int, ↓reduceIte, Nat.reduceEqDiff, Nat.reduceAdd, Nat.reduceMul, Nat.reduceLeDiff, Nat.reduceSub, Nat.reduceLT, Int.reduceToNat, Int.reduceLT, Int.reduceLE, reduceCtorEq, Nat.zero_add, Nat.add_zero, and_self, and_true, true_and, ne_eq, not_false_eq_true, not_true_eq_false, decide_true, decide_false, Bool.false_eq_true, Bool.not_true, Bool.not_false, Bool.true_and, Bool.and_true, Bool.or_false, Bool.false_or, Bool.and_self]
  refine hX _ _ ?_
  simp only [l62_0, r62_8, r62_9, r62_10, r62_11, wi, Int.reduceAdd, wa, Int.one_mul, Int.zero_add, wp, wq, wpp, wpq, wqp, wqq, wm, Int.le_refl, t1, t2, go_sem, bne_iff_ne, Int.cast_ofNat_Int, ↓reduceIte, Nat.reduceEqDiff, Nat.reduceAdd, Nat.reduceMul, Nat.reduceLeDiff, Nat.reduceSub, Nat.reduceLT, Int.reduceToNat, Int.reduceLT, Int.reduceLE, reduceCtorEq, Nat.zero_add, Nat.add_zero, and_self, and_true, true_and, ne_eq, not_false_eq_true, not_true_eq_false, decide_true, decide_false, Bool.false_eq_true, Bool.not_true, Bool.not_false, Bool.true_and, Bool.and_true, Bool.or_false, Bool.false_or, Bool.and_self]
  refine hX _ _ ?_
  simp only [l62_0, r62_8, r62_12, r62_5, wi, Int.reduceAdd, wa, Int.one_mul, Int.zero_add, wp, wq, wpp, wpq, wqp, wqq, wm, Int.le_refl, t1, t2, go_sem, bne_iff_ne, Int.cast_ofNat_Int, ↓reduceIte, Nat.reduceEqDiff, Nat.reduceAdd, Nat.reduceMul, Nat.reduceLeDiff, Nat.reduceSub, Nat.reduceLT, Int.reduceToNat, Int.reduceLT, Int.reduceLE, reduceCtorEq, Nat.zero_add, Nat.add_zero, and_self, and_true, true_and, ne_eq, not_false_eq_true, not_true_eq_false, decide_true, decide_false, Bool.false_eq_true, Bool.not_true, Bool.not_false, Bool.true_and, Bool.and_true, Bool.or_false, Bool.false_or, Bool.and_self]
  refine hX1 _ _ ?_
  simp only [l62_1, ← hL, r62_4, r62_6, r62_7, wi, Int.reduceAdd, List.replicate, List.flatten_cons, List.flatten_nil, List.cons_append, List.nil_append, t1, t2, go_sem, bne_iff_ne, Int.cast_ofNat_Int, ↓reduceIte, Nat.reduceEqDiff, Nat.reduceAdd, Nat.reduceMul, Nat.reduceLeDiff, Nat.reduceSub, Nat.reduceLT, Int.reduceToNat, Int.reduceLT, Int.reduceLE, reduceCtorEq, Nat.zero_add, Nat.add_zero, and_self, and_true, true_and, ne_eq, not_false_eq_true, not_true_eq_false, decide_true, decide_false, Bool.false_eq_true, Bool.not_true, Bool.not_false, Bool.true_and, Bool.and_true, Bool.or_false, Bool.false_or, Bool.and_self]
  refine hX _ _ ?_
  simp only [l62_0, r62_8, r62_9, r62_10, r62_11, wi, Int.reduceAdd, wa, Int.one_mul, Int.zero_add, wp, wq, wpp, wpq, wqp, wqq, wm, Int.le_refl, t1, t2, go_sem, bne_iff_ne, Int.cast_ofNat_Int, ↓reduceIte, Nat.reduceEqDiff, Nat.reduceAdd, Nat.reduceMul, Nat.reduceLeDiff, Nat.reduceSub, Nat.reduceLT, Int.reduceToNat, Int.reduceLT, Int.reduceLE, reduceCtorEq, Nat.zero_add, Nat.add_zero, and_self, and_true, true_and, ne_eq, not_false_eq_true, not_true_eq_false, decide_true, decide_false, Bool.false_eq_true, Bool.not_true, Bool.not_false, Bool.true_and, Bool.and_true, Bool.or_false, Bool.false_or, Bool.and_self]
  refine hX _ _ ?_
  simp only [l62_0, r62_8, r62_9, r62_10, r62_11, wi, Int.reduceAdd, wa, Int.one_mul, Int.zero_add, wp, wq, wpp, wpq, wqp, wqq, wm, Int.le_refl, t1, t2, go_sem, bne_iff_ne, Int.cast_ofNat_Int, ↓reduceIte, Nat.reduceEqDiff, Nat.reduceAdd, Nat.reduceMul, Nat.reduceLeDiff, Nat.reduceSub, Nat.reduceLT, Int.reduceToNat, Int.reduceLT, Int.reduceLE, reduceCtorEq, Nat.zero_add, Nat.add_zero, and_self, and_true, true_and, ne_eq, not_false_eq_true, not_true_eq_false, decide_true, decide_false, Bool.false_eq_true, Bool.not_true, Bool.not_false, Bool.true_and, Bool.and_true, Bool.or_false, Bool.false_or, Bool.and_self]
  refine hX _ _ ?_
  simp only [l62_0, r62_8, r62_12, r62_5, wi, Int.reduceAdd, wa, Int.one_mul, Int.zero_add, wp, wq, wpp, wpq, wqp, wqq, wm, Int.le_refl, t1, t2, go_sem, bne_iff_ne, Int.cast_ofNat_Int, ↓reduceIte, Nat.reduceEqDiff, Nat.reduceAdd, Nat.reduceMul, Nat.reduceLeDiff, Nat.reduceSub, Nat.reduceLT, Int.reduceToNat, Int.reduceLT, Int.reduceLE, reduceCtorEq, Nat.zero_add, Nat.add_zero, and_self, and_true, true_and, ne_eq, not_false_eq_true, not_true_eq_false, decide_true, decide_false, Bool.false_eq_true, Bool.not_true, Bool.not_false, Bool.true_and, Bool.and_true, Bool.or_false, Bool.false_or, Bool.and_self]
  refine hX1 _ _ ?_
  simp only [l62_1, ← hL, r62_4, r62_13, wi, Int.reduceAdd, Int.lt_irrefl, go_sem, bne_iff_ne, Int.cast_ofNat_Int, ↓reduceIte, Nat.reduceEqDiff, Nat.reduceAdd, Nat.reduceMul, Nat.reduceLeDiff, Nat.reduceSub, Nat.reduceLT, Int.reduceToNat, Int.reduceLT, Int.reduceLE, reduceCtorEq, Nat.zero_add, Nat.add_zero, and_self, and_true, true_and, ne_eq, not_false_eq_true, not_true_eq_false, decide_true, decide_false, Bool.false_eq_true, Bool.not_true, Bool.not_false, Bool.true_and, Bool.and_true, Bool.or_false, Bool.false_or, Bool.and_self]
  refine ⟨by omega, fun i hi => ?_, n + 1 + 1, rfl, by omega, by omega, if_pos rfl⟩
  rw [if_neg (by omega), if_neg (by omega), if_neg (by omega)]
set_option maxRecDepth 20000 in
set_option maxHeartbeats 4000000 in
theorem weights4 (p q : Int) (dep : Nat) (hdep : dep ≤ 6) (hp : 0 ≤ p) (hq : 0 ≤ q) (hF : p + q = ((2 ^ dep : Nat) : Int)) (m : Mem) (n : Nat) :
    Fn TA 62 [RI 4, RI q, RI dep] m n (fun r' m' n' => n ≤ n' ∧ (∀ id, id < n → m' id = m id) ∧ ∃ id, r' = .one (.sl id 0 4 (some 4) 1) ∧ n ≤ id ∧ id < n' ∧ m' id = some ⟨[I (p * p * p), I (p * p * q + (p * q + q * p) * p), I ((p * q + q * p) * q + q * q * p), I (q * q * q)], true⟩) := by
  refine Fn_of (fn := F62) rfl (by simp [F62]) ?_
  obtain ⟨L, hL⟩ : ∃ L_, L_ = SC.loop l62_0 := ⟨_, rfl⟩
  have hX : ∀ s Q, X TA l62_0 s (Next Q (fun s_ => X TA L s_ Q)) → X TA L s Q := by subst hL; exact fun _ _ h => X_loop h
  obtain ⟨L1, hL1⟩ : ∃ L_, L_ = SC.loop l62_1 := ⟨_, rfl⟩
  have hX1 : ∀ s Q, X TA l62_1 s (Next Q (fun s_ => X TA L1 s_ Q)) → X TA L1 s Q := by subst hL1; exact fun _ _ h => X_loop h
  have h64 : p + q ≤ 64 := by
    have h2 : (2 : Nat) ^ dep ≤ 2 ^ 6 := Nat.pow_le_pow_right (by omega) hdep
    have h4 : (2 : Nat) ^ dep ≤ 64 := h2
    rw [hF]
    omega
  have bp : 0 ≤ p ∧ p ≤ 64 := by omega
  have bq : 0 ≤ q ∧ q ≤ 64 := by omega
  have bpp := mul64 bp bp (by decide)
  have bpq := mul64 bp bq (by decide)
  have bqp := mul64 bq bp (by decide)
  have bqq := mul64 bq bq (by decide)
  have wa : IntKind.i64.wrap (((2 ^ dep : Nat) : Int) - q) = p := by rw [← hF, wr_eq (by omega) (by omega)]; omega
  have wp : IntKind.i64.wrap p = p := w0 bp (by decide)
  have wq : IntKind.i64.wrap q = q := w0 bq (by decide)
  have wpp : IntKind.i64.wrap (p * p) = p * p := w0 bpp (by decide)
  have wpq : IntKind.i64.wrap (p * q) = p * q := w0 bpq (by decide)
  have wqp : IntKind.i64.wrap (q * p) = q * p := w0 bqp (by decide)
  have wqq : IntKind.i64.wrap (q * q) = q * q := w0 bqq (by decide)
  have wm : IntKind.i64.wrap (p * q + q * p) = p * q + q * p := wr_eq (by omega) (by omega)
  have bm : 0 ≤ p * q + q * p ∧ p * q + q * p ≤ 8192 := by omega
  have bppp := mul64 bpp bp (by decide)
  have bppq := mul64 bpp bq (by decide)
  have bmp := mul64 bm bp (by decide)
  have bmq := mul64 bm bq (by decide)
  have bqqp := mul64 bqq bp (by decide)
  have bqqq := mul64 bqq bq (by decide)
  have wppp : IntKind.i64.wrap (p * p * p) = p * p * p := w0 bppp (by decide)
  have wppq : IntKind.i64.wrap (p * p * q) = p * p * q := w0 bppq (by decide)
  have wmp : IntKind.i64.wrap ((p * q + q * p) * p) = (p * q + q * p) * p := w0 bmp (by decide)
  have wmq : IntKind.i64.wrap ((p * q + q * p) * q) = (p * q + q * p) * q := w0 bmq (by decide)
  have wqqp : IntKind.i64.wrap (q * q * p) = q * q * p := w0 bqqp (by decide)
  have wqqq : IntKind.i64.wrap (q * q * q) = q * q * q := w0 bqqq (by decide)
  have ws1 : IntKind.i64.wrap (p * p * q + (p * q + q * p) * p) = p * p * q + (p * q + q * p) * p := wr_eq (by omega) (by omega)
  have ws2 : IntKind.i64.wrap ((p * q + q * p) * q + q * q * p) = (p * q + q * p) * q + q * q * p := wr_eq (by omega) (by omega)
  have wi : ∀ k : Int, -100 ≤ k → k ≤ 100 → IntKind.i64.wrap k = k := fun k h1 h2 => wr_eq (by omega) (by omega)
  have t1 : (1 : Int).toNat = 1 := rfl
  have t2 : (2 : Int).toNat = 2 := rfl
  have t3 : (3 : Int).toNat = 3 := rfl
  have hsh := bin_shl_small dep hdep
  simp only [F62, c62, r62_0, r62_1, r62_2, r62_3, hsh, ← hL, ← hL1, go_sem, bne_iff_ne, Int.cast_ofNat_Int, ↓reduceIte, Nat.reduceEqDiff, Nat.reduceAdd, Nat.reduceMul, Nat.reduceLeDiff, Nat.reduceSub, Nat.reduceLT, Int.reduceToNat, Int.reduceLT, Int.reduceLE, reduceCtorEq, Nat.zero_add, Nat.add_zero, and_self, and_true, true_and, ne_eq, not_false_eq_true, not_true_eq_false, decide_true, decide_false, Bool.false_eq_true, Bool.not_true, Bool.not_false, Bool.true_and, Bool.and_true, Bool.or_false, Bool.false_or, Bool.and_self]
  refine hX1 _ _ ?_
  simp only [l62_1, ← hL, r62_4, r62_6, r62_7, wi, Int.reduceAdd, List.replicate, List.flatten_cons, List.flatten_nil, List.cons_append, List.nil_append, t1, t2, go_sem, bne_iff_ne, Int.cast_ofNat_Int, ↓reduceIte, Nat.reduceEqDiff, Nat.reduceAdd, Nat.reduceMul, Nat.reduceLeDiff, Nat.reduceSub, Nat.reduceLT, Int.reduceToNat, Int.reduceLT, Int.reduceLE, reduceCtorEq, Nat.zero_add, Nat.add_zero, and_self, and_true, true_and, ne_eq, not_false_eq_true, not_true_eq_false, decide_true, decide_false, Bool.false_eq_true, Bool.not_true, Bool.not_false, Bool.true_and, Bool.and_true, Bool.or_false, Bool.false_or, Bool.and_self]
  refine hX _ _ ?_
  simp only [l62_0, r62_8, r62_9, r62_10, r62_11, wi, Int.reduceAdd, wa, Int.one_mul, Int.zero_add, wp, wq, wpp, wpq, wqp, wqq, wm, Int.le_refl, t1, t2, go_sem, bne_iff_ne, Int.cast_ofNat_Int, ↓reduceIte, Nat.reduceEqDiff, Nat.reduceAdd, Nat.reduceMul, Nat.reduceLeDiff, Nat.reduceSub, Nat.reduceLT, Int.reduceToNat, Int.reduceLT, Int.reduceLE, reduceCtorEq, Nat.zero_add, Nat.add_zero, and_self, and_true, true_and, ne_eq, not_false_eq_true, not_true_eq_false, decide_true, decide_false, Bool.false_eq_true, Bool.not_true, Bool.not_false, Bool.true_and, Bool.and_true, Bool.or_false, Bool.false_or, Bool.and_self]
  refine hX _ _ ?_
  simp only [l62_0, r62_8, r62_12, r62_5, wi, Int.reduceAdd, wa, Int.one_mul, Int.zero_add, wp, wq, wpp, wpq, wqp, wqq, wm, Int.le_refl, t1, t2, go_sem, bne_iff_ne, Int.cast_ofNat_Int, ↓reduceIte, Nat.reduceEqDiff, Nat.reduceAdd, Nat.reduceMul, Nat.reduceLeDiff, Nat.reduceSub, Nat.reduceLT, Int.reduceToNat, Int.reduceLT, Int.reduceLE, reduceCtorEq, Nat.zero_add, Nat.add_zero, and_self, and_true, true_and, ne_eq, not_false_eq_true, not_true_eq_false, decide_true, decide_false, Bool.false_eq_true, Bool.not_true, Bool.not_false, Bool.true_and, Bool.and_true, Bool.or_false, Bool.false_or, Bool.and_self]
  refine hX1 _ _ ?_
  simp only [l62_1, ← hL, r62_4, r62_6, r62_7, wi, Int.reduceAdd, List.replicate, List.flatten_cons, List.flatten_nil, List.cons_append, List.nil_append, t1, t2, go_sem, bne_iff_ne, Int.cast_ofNat_Int, ↓reduceIte, Nat.reduceEqDiff, Nat.reduceAdd, Nat.reduceMul, Nat.reduceLeDiff, Nat.reduceSub, Nat.reduceLT, Int.reduceToNat, Int.reduceLT, Int.reduceLE, reduceCtorEq, Nat.zero_add, Nat.add_zero, and_self, and_true, true_and, ne_eq, not_false_eq_true, not_true_eq_false, decide_true, decide_false, Bool.false_eq_true, Bool.not_true, Bool.not_false, Bool.true_and, Bool.and_true, Bool.or_false, Bool.false_or, Bool.and_self]
  refine hX _ _ ?_
  simp only [l62_0, r62_8, r62_9, r62_10, r62_11, wi, Int.reduceAdd, wa, Int.one_mul, Int.zero_add, wp, wq, wpp, wpq, wqp, wqq, wm, Int.le_refl, t1, t2, go_sem, bne_iff_ne, Int.cast_ofNat_Int, ↓reduceIte, Nat.reduceEqDiff, Nat.reduceAdd, Nat.reduceMul, Nat.reduceLeDiff, Nat.reduceSub, Nat.reduceLT, Int.reduceToNat, Int.reduceLT, Int.reduceLE, reduceCtorEq, Nat.zero_add, Nat.add_zero, and_self, and_true, true_and, ne_eq, not_false_eq_true, not_true_eq_false, decide_true, decide_false, Bool.false_eq_true, Bool.not_true, Bool.not_false, Bool.true_and, Bool.and_true, Bool.or_false, Bool.false_or, Bool.and_self]
  refine hX _ _ ?_
  simp only [l62_0, r62_8, r62_9, r62_10, r62_11, wi, Int.reduceAdd, wa, Int.one_mul, Int.zero_add, wp, wq, wpp, wpq, wqp, wqq, wm, Int.le_refl, t1, t2, go_sem, bne_iff_ne, Int.cast_ofNat_Int, ↓reduceIte, Nat.reduceEqDiff, Nat.reduceAdd, Nat.reduceMul, Nat.reduceLeDiff, Nat.reduceSub, Nat.reduceLT, Int.reduceToNat, Int.reduceLT, Int.reduceLE, reduceCtorEq, Nat.zero_add, Nat.add_zero, and_self, and_true, true_and, ne_eq, not_false_eq_true, not_true_eq_false, decide_true, decide_false, Bool.false_eq_true, Bool.not_true, Bool.not_false, Bool.true_and, Bool.and_true, Bool.or_false, Bool.false_or, Bool.and_self]
  refine hX _ _ ?_
  simp only [l62_0, r62_8, r62_12, r62_5, wi, Int.reduceAdd, wa, Int.one_mul, Int.zero_add, wp, wq, wpp, wpq, wqp, wqq, wm, Int.le_refl, t1, t2, go_sem, bne_iff_ne, Int.cast_ofNat_Int, ↓reduceIte, Nat.reduceEqDiff, Nat.reduceAdd, Nat.reduceMul, Nat.reduceLeDiff, Nat.reduceSub, Nat.reduceLT, Int.reduceToNat, Int.reduceLT, Int.reduceLE, reduceCtorEq, Nat.zero_add, Nat.add_zero, and_self, and_true, true_and, ne_eq, not_false_eq_true, not_true_eq_false, decide_true, decide_false, Bool.false_eq_true, Bool.not_true, Bool.not_false, Bool.true_and, Bool.and_true, Bool.or_false, Bool.false_or, Bool.and_self]
  refine hX1 _ _ ?_
  simp only [l62_1, ← hL, r62_4, r62_6, r62_7, wi, Int.reduceAdd, List.replicate, List.flatten_cons, List.flatten_nil, List.cons_append, List.nil_append, t1, t2, t3, go_sem, bne_iff_ne, Int.cast_ofNat_Int, ↓reduceIte, Nat.reduceEqDiff, Nat.reduceAdd, Nat.reduceMul, Nat.reduceLeDiff, Nat.reduceSub, Nat.reduceLT, Int.reduceToNat, Int.reduceLT, Int.reduceLE, reduceCtorEq, Nat.zero_add, Nat.add_zero, and_self, and_true, true_and, ne_eq, not_false_eq_true, not_true_eq_false, decide_true, decide_false, Bool.false_eq_true, Bool.not_true, Bool.not_false, Bool.true_and, Bool.and_true, Bool.or_false, Bool.false_or, Bool.and_self]
  refine hX _ _ ?_
  simp only [l62_0, r62_8, r62_9, r62_10, r62_11, wppp, wppq, wmp, wmq, wqqp, wqqq, ws1, ws2, wi, Int.reduceAdd, wa, Int.one_mul, Int.zero_add, wp, wq, wpp, wpq, wqp, wqq, wm, Int.le_refl, t1, t2, t3, go_sem, bne_iff_ne, Int.cast_ofNat_Int, ↓reduceIte, Nat.reduceEqDiff, Nat.reduceAdd, Nat.reduceMul, Nat.reduceLeDiff, Nat.reduceSub, Nat.reduceLT, Int.reduceToNat, Int.reduceLT, Int.reduceLE, reduceCtorEq, Nat.zero_add, Nat.add_zero, and_self, and_true, true_and, ne_eq, not_false_eq_true, not_true_eq_false, decide_true, decide_false, Bool.false_eq_true, Bool.not_true, Bool.not_false, Bool.true_and, Bool.and_true, Bool.or_false, Bool.false_or, Bool.and_self]
  refine hX _ _ ?_
  simp only [l62_0, r62_8, r62_9, r62_10, r62_11, wppp, wppq, wmp, wmq, wqqp, wqqq, ws1, ws2, wi, Int.reduceAdd, wa, Int.one_mul, Int.zero_add, wp, wq, wpp, wpq, wqp, wqq, wm, Int.le_refl, t1, t2, t3, go_sem, bne_iff_ne, Int.cast_ofNat_Int, ↓reduceIte, Nat.reduceEqDiff, Nat.reduceAdd, Nat.reduceMul, Nat.reduceLeDiff, Nat.reduceSub, Nat.reduceLT, Int.reduceToNat, Int.reduceLT, Int.reduceLE, reduceCtorEq, Nat.zero_add, Nat.add_zero, and_self, and_true, true_and, ne_eq, not_false_eq_true, not_true_eq_false, decide_true, decide_false, Bool.false_eq_true, Bool.not_true, Bool.not_false, Bool.true_and, Bool.and_true, Bool.or_false, Bool.false_or, Bool.and_self]
  refine hX _ _ ?_
  simp only [l62_0, r62_8, r62_9, r62_10, r62_11, wppp, wppq, wmp, wmq, wqqp, wqqq, ws1, ws2, wi, Int.reduceAdd, wa, Int.one_mul, Int.zero_add, wp, wq, wpp, wpq, wqp, wqq, wm, Int.le_refl, t1, t2, t3, go_sem, bne_iff_ne, Int.cast_ofNat_Int, ↓reduceIte, Nat.reduceEqDiff, Nat.reduceAdd, Nat.reduceMul, Nat.reduceLeDiff, Nat.reduceSub, Nat.reduceLT, Int.reduceToNat, Int.reduceLT, Int.reduceLE, reduceCtorEq, Nat.zero_add, Nat.add_zero, and_self, and_true, true_and, ne_eq, not_false_eq_true, not_true_eq_false, decide_true, decide_false, Bool.false_eq_true, Bool.not_true, Bool.not_false, Bool.true_and, Bool.and_true, Bool.or_false, Bool.false_or, Bool.and_self]
  refine hX _ _ ?_
  simp only [l62_0, r62_8, r62_12, r62_5, wppp, wppq, wmp, wmq, wqqp, wqqq, ws1, ws2, wi, Int.reduceAdd, wa, Int.one_mul, Int.zero_add, wp, wq, wpp, wpq, wqp, wqq, wm, Int.le_refl, t1, t2, t3, go_sem, bne_iff_ne, Int.cast_ofNat_Int, ↓reduceIte, Nat.reduceEqDiff, Nat.reduceAdd, Nat.reduceMul, Nat.reduceLeDiff, Nat.reduceSub, Nat.reduceLT, Int.reduceToNat, Int.reduceLT, Int.reduceLE, reduceCtorEq, Nat.zero_add, Nat.add_zero, and_self, and_true, true_and, ne_eq, not_false_eq_true, not_true_eq_false, decide_true, decide_false, Bool.false_eq_true, Bool.not_true, Bool.not_false, Bool.true_and, Bool.and_true, Bool.or_false, Bool.false_or, Bool.and_self]
  refine hX1 _ _ ?_
  simp only [l62_1, ← hL, r62_4, r62_13, wi, Int.reduceAdd, Int.lt_irrefl, go_sem, bne_iff_ne, Int.cast_ofNat_Int, ↓reduceIte, Nat.reduceEqDiff, Nat.reduceAdd, Nat.reduceMul, Nat.reduceLeDiff, Nat.reduceSub, Nat.reduceLT, Int.reduceToNat, Int.reduceLT, Int.reduceLE, reduceCtorEq, Nat.zero_add, Nat.add_zero, and_self, and_true, true_and, ne_eq, not_false_eq_true, not_true_eq_false, decide_true, decide_false, Bool.false_eq_true, Bool.not_true, Bool.not_false, Bool.true_and, Bool.and_true, Bool.or_false, Bool.false_or, Bool.and_self]
  refine ⟨by omega, fun i hi => ?_, n + 1 + 1 + 1, rfl, by omega, by omega, if_pos rfl⟩
  rw [if_neg (by omega), if_neg (by omega), if_neg (by omega), if_neg (by omega)]

def wts (p q : Int) : Cv → List Cell
  | .quad .. => [I (p * p), I (p * q + q * p), I (q * q)]
  | .cub .. => [I (p * p * p), I (p * p * q + (p * q + q * p) * p), I ((p * q + q * p) * q + q * q * p), I (q * q * q)]
theorem weights (v : Cv) (p q : Int) (dep : Nat) (hdep : dep ≤ 6) (hp : 0 ≤ p) (hq : 0 ≤ q) (hF : p + q = ((2 ^ dep : Nat) : Int)) (m : Mem) (n : Nat) :
    Fn TA 62 [RI v.pts.length, RI q, RI dep] m n (fun r' m' n' => n ≤ n' ∧ (∀ id, id < n → m' id = m id) ∧ ∃ id, r' = .one (.sl id 0 v.pts.length (some v.pts.length) 1) ∧ n ≤ id ∧ id < n' ∧ m' id = some ⟨wts p q v, true⟩) := by
  cases v with
  | quad a b c => exact weights3 p q dep hdep hp hq hF m n
  | cub a b c d => exact weights4 p q dep hdep hp hq hF m n
end Go.Proofs.Ytkneefkhggacmaa.Sy
