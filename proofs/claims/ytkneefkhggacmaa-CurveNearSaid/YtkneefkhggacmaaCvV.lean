/- Curves: the reference's At. Conditions: those that each theorem names. -/
import Derived.Test.YtkneefkhggacmaaCvU
namespace Go.Proofs.Ytkneefkhggacmaa.Sy
open Go Go.Proofs
set_option linter.unusedSimpArgs false
set_option linter.unusedVariables false
attribute [local go_sem] R_nil R_mv R_pick R_alloc R_box R_build R_bslice R_load1 R_loadA R_store R_nilchk R_bin R_beq R_eqv R_eqnil R_un R_conv R_mkfn R_mkslice R_slS R_slA R_fadr R_fld R_iadrA R_iadrS R_idxA R_ext R_len R_lenC R_cap R_app R_cpy R_mn R_mx
  evalOp evO evOs upd_upd upd_at unfrz_at putE_some putE_none Then_some X_seq X_reg X_dreg X_ret X_skip X_exit X_block X_condK condK_bool Next_n Next_x Next_r Out_n Out_x Out_r Ret_n Ret_r
  bin_shr1 bin_add bin_sub bin_mul bin_lss bin_leq bin_gtr bin_geq bin_eql bin_neq un_not un_neg boolOf_b boolOf_tup R_guard Option.map_some evRes pack_one pack_two pack_three pack_none List.getD_cons_zero List.getD_cons_succ getD_nil
  Option.some.injEq exists_eq_left' Reg.cs? fillC setL List.set_cons_zero List.set_cons_succ List.length_cons List.length_nil rd_upd rdB wr List.drop_zero List.drop_succ_cons List.take_succ_cons List.take_zero List.getElem?_cons_zero List.getElem?_cons_succ
  ix Int.toNat_zero lenO_sl lenO_nil sn1 ns1 sn2 ns2 sn3 ns3 sn4 ns4 sn5 ns5 sn6 ns6 sn7 ns7 sn8 ns8 sn9 ns9 sn10 ns10 sn11 ns11 sn12 ns12 sk1_2 sk1_3 sk1_4 sk1_5 sk1_6 sk1_7 sk1_8 sk2_1 sk2_3 sk2_4 sk2_5 sk2_6 sk2_7 sk2_8 sk3_1 sk3_2 sk3_4 sk3_5 sk3_6 sk3_7 sk3_8 sk4_1 sk4_2 sk4_3 sk4_5 sk4_6 sk4_7 sk4_8 sk5_1 sk5_2 sk5_3 sk5_4 sk5_6 sk5_7 sk5_8 sk6_1 sk6_2 sk6_3 sk6_4 sk6_5 sk6_7 sk6_8 sk7_1 sk7_2 sk7_3 sk7_4 sk7_5 sk7_6 sk7_8 sk8_1 sk8_2 sk8_3 sk8_4 sk8_5 sk8_6 sk8_7

theorem wmul {w X W : Int} (hw : 0 ≤ w ∧ w ≤ W) (hX : -2147483648 ≤ X ∧ X ≤ 2147483648) : -(W * 2147483648) ≤ w * X ∧ w * X ≤ W * 2147483648 := by
  have h1 := Int.mul_le_mul_of_nonneg_left hX.2 hw.1
  have h2 := Int.mul_le_mul_of_nonneg_left hX.1 hw.1
  omega

set_option maxRecDepth 20000 in
set_option maxHeartbeats 4000000 in
theorem At43q (a b c : Pt) (p q : Int) (dep : Nat) (hdep : dep ≤ 6) (hp : 0 ≤ p) (hq : 0 ≤ q) (hF : p + q = ((2 ^ dep : Nat) : Int)) (hv : (Cv.quad a b c).inP = true) (r : Reg) (m : Mem) (n : Nat) (hr : RP m n r [a, b, c]) :
    Fn TA 43 [r, RI q, RI dep] m n (fun r' _ _ => r' = .tup [RI (val p q Pt.x (.quad a b c)), RI (val p q Pt.y (.quad a b c))]) := by
  refine Fn_of (fn := F43) rfl (by simp [F43]) ?_
  obtain ⟨L, hL⟩ : ∃ L_, L_ = SC.loop l43_0 := ⟨_, rfl⟩
  have hX : ∀ s Q, X TA l43_0 s (Next Q (fun s_ => X TA L s_ Q)) → X TA L s Q := by subst hL; exact fun _ _ h => X_loop h
  simp only [Cv.inP, Bool.and_eq_true, inP_iff] at hv
  obtain ⟨⟨ha, hb⟩, hc⟩ := hv
  have h64 : p + q ≤ 64 := by
    have h2 : (2 : Nat) ^ dep ≤ 2 ^ 6 := Nat.pow_le_pow_right (by omega) hdep
    have h4 : (2 : Nat) ^ dep ≤ 64 := h2
    rw [hF]
    omega
  have bp : 0 ≤ p ∧ p ≤ 64 := by omega
  have bq : 0 ≤ q ∧ q ≤ 64 := by omega
  have bpp := mul64 bp bp (by decide)
  have bpq := mul64 bp bq (by decide)
  have bqp := mul64 bq bp (by decide)
  have bqq := mul64 bq bq (by decide)
  have bm : 0 ≤ p * q + q * p ∧ p * q + q * p ≤ 8192 := by omega
  have c1 := wmul bpp ha.1
  have c2 := wmul bm hb.1
  have c3 := wmul bqq hc.1
  have d1 := wmul bpp ha.2
  have d2 := wmul bm hb.2
  have d3 := wmul bqq hc.2
  have wc1 : IntKind.i64.wrap (p * p * a.x) = p * p * a.x := wr_eq (by omega) (by omega)
  have wc2 : IntKind.i64.wrap ((p * q + q * p) * b.x) = (p * q + q * p) * b.x := wr_eq (by omega) (by omega)
  have wc3 : IntKind.i64.wrap (q * q * c.x) = q * q * c.x := wr_eq (by omega) (by omega)
  have we1 : IntKind.i64.wrap (p * p * a.x + (p * q + q * p) * b.x) = p * p * a.x + (p * q + q * p) * b.x := wr_eq (by omega) (by omega)
  have we2 : IntKind.i64.wrap (p * p * a.x + (p * q + q * p) * b.x + q * q * c.x) = p * p * a.x + (p * q + q * p) * b.x + q * q * c.x := wr_eq (by omega) (by omega)
  have wd1 : IntKind.i64.wrap (p * p * a.y) = p * p * a.y := wr_eq (by omega) (by omega)
  have wd2 : IntKind.i64.wrap ((p * q + q * p) * b.y) = (p * q + q * p) * b.y := wr_eq (by omega) (by omega)
  have wd3 : IntKind.i64.wrap (q * q * c.y) = q * q * c.y := wr_eq (by omega) (by omega)
  have wf1 : IntKind.i64.wrap (p * p * a.y + (p * q + q * p) * b.y) = p * p * a.y + (p * q + q * p) * b.y := wr_eq (by omega) (by omega)
  have wf2 : IntKind.i64.wrap (p * p * a.y + (p * q + q * p) * b.y + q * q * c.y) = p * p * a.y + (p * q + q * p) * b.y + q * q * c.y := wr_eq (by omega) (by omega)
  have wi : ∀ k : Int, -100 ≤ k → k ≤ 100 → IntKind.i64.wrap k = k := fun k h1 h2 => wr_eq (by omega) (by omega)
  have t1 : (1 : Int).toNat = 1 := rfl
  have t2 : (2 : Int).toNat = 2 := rfl
  rcases hr with ⟨_, hz, _⟩ | ⟨id, off, cap, rfl, hid, hrd⟩
  · cases hz
  obtain ⟨B, hB, g0⟩ := rd_cell hrd (a := 0) (c := I a.x) rfl
  obtain ⟨_, e, g1⟩ := rd_cell hrd (a := 1) (c := I a.y) rfl
  rw [hB] at e; cases e
  obtain ⟨_, e, g2⟩ := rd_cell hrd (a := 2) (c := I b.x) rfl
  rw [hB] at e; cases e
  obtain ⟨_, e, g3⟩ := rd_cell hrd (a := 3) (c := I b.y) rfl
  rw [hB] at e; cases e
  obtain ⟨_, e, g4⟩ := rd_cell hrd (a := 4) (c := I c.x) rfl
  rw [hB] at e; cases e
  obtain ⟨_, e, g5⟩ := rd_cell hrd (a := 5) (c := I c.y) rfl
  rw [hB] at e; cases e
  have g0 : B.cells[off]? = some (I a.x) := g0
  have g3 : B.cells[off + 2 + 1]? = some (I b.y) := g3
  have g5 : B.cells[off + 4 + 1]? = some (I c.y) := g5
  simp only [F43, c43, r43_0, r43_1, go_sem, bne_iff_ne, Int.cast_ofNat_Int, ↓reduceIte, Nat.reduceEqDiff, Nat.reduceAdd, Nat.reduceMul, Nat.reduceLeDiff, Nat.reduceSub, Nat.reduceLT, Int.reduceToNat, Int.reduceLT, Int.reduceLE, reduceCtorEq, Nat.zero_add, Nat.add_zero, and_self, and_true, true_and, ne_eq, not_false_eq_true, not_true_eq_false, decide_true, decide_false, Bool.false_eq_true, Bool.not_true, Bool.not_false, Bool.true_and, Bool.and_true, Bool.or_false, Bool.false_or, Bool.and_self]
  refine R_callk ?_
  simp only [go_sem, bne_iff_ne, Int.cast_ofNat_Int, ↓reduceIte, Nat.reduceEqDiff, Nat.reduceAdd, Nat.reduceMul, Nat.reduceLeDiff, Nat.reduceSub, Nat.reduceLT, Int.reduceToNat, Int.reduceLT, Int.reduceLE, reduceCtorEq, Nat.zero_add, Nat.add_zero, and_self, and_true, true_and, ne_eq, not_false_eq_true, not_true_eq_false, decide_true, decide_false, Bool.false_eq_true, Bool.not_true, Bool.not_false, Bool.true_and, Bool.and_true, Bool.or_false, Bool.false_or, Bool.and_self]
  refine (weights3 p q dep hdep hp hq hF (frz m) n).mono ?_
  rintro _ m1 n1 ⟨hn1, _, iw, rfl, hw1, hw2, hw⟩
  have hmx : max n n1 = n1 := Nat.max_eq_right hn1
  have hM : unfrz m n m1 id = some B := by rw [unfrz_at, if_pos hid]; exact hB
  have hW : unfrz m n m1 iw = some ⟨[I (p * p), I (p * q + q * p), I (q * q)], true⟩ := by rw [unfrz_at, if_neg (by omega)]; exact hw
  rw [hmx]
  generalize unfrz m n m1 = M at hM hW ⊢
  simp only [r43_2, r43_3, ← hL, go_sem, bne_iff_ne, Int.cast_ofNat_Int, ↓reduceIte, Nat.reduceEqDiff, Nat.reduceAdd, Nat.reduceMul, Nat.reduceLeDiff, Nat.reduceSub, Nat.reduceLT, Int.reduceToNat, Int.reduceLT, Int.reduceLE, reduceCtorEq, Nat.zero_add, Nat.add_zero, and_self, and_true, true_and, ne_eq, not_false_eq_true, not_true_eq_false, decide_true, decide_false, Bool.false_eq_true, Bool.not_true, Bool.not_false, Bool.true_and, Bool.and_true, Bool.or_false, Bool.false_or, Bool.and_self]
  refine hX _ _ ?_
  simp only [l43_0, r43_4, r43_6, r43_7, r43_5, hM, hW, g0, g1, g2, g3, g4, g5, wi, Int.reduceAdd, Int.zero_add, Int.le_refl, t1, t2, wc1, wc2, wc3, we1, we2, wd1, wd2, wd3, wf1, wf2, go_sem, bne_iff_ne, Int.cast_ofNat_Int, ↓reduceIte, Nat.reduceEqDiff, Nat.reduceAdd, Nat.reduceMul, Nat.reduceLeDiff, Nat.reduceSub, Nat.reduceLT, Int.reduceToNat, Int.reduceLT, Int.reduceLE, reduceCtorEq, Nat.zero_add, Nat.add_zero, and_self, and_true, true_and, ne_eq, not_false_eq_true, not_true_eq_false, decide_true, decide_false, Bool.false_eq_true, Bool.not_true, Bool.not_false, Bool.true_and, Bool.and_true, Bool.or_false, Bool.false_or, Bool.and_self]
  refine hX _ _ ?_
  simp only [l43_0, r43_4, r43_6, r43_7, r43_5, hM, hW, g0, g1, g2, g3, g4, g5, wi, Int.reduceAdd, Int.zero_add, Int.le_refl, t1, t2, wc1, wc2, wc3, we1, we2, wd1, wd2, wd3, wf1, wf2, go_sem, bne_iff_ne, Int.cast_ofNat_Int, ↓reduceIte, Nat.reduceEqDiff, Nat.reduceAdd, Nat.reduceMul, Nat.reduceLeDiff, Nat.reduceSub, Nat.reduceLT, Int.reduceToNat, Int.reduceLT, Int.reduceLE, reduceCtorEq, Nat.zero_add, Nat.add_zero, and_self, and_true, true_and, ne_eq, not_false_eq_true, not_true_eq_false, decide_true, decide_false, Bool.false_eq_true, Bool.not_true, Bool.not_false, Bool.true_and, Bool.and_true, Bool.or_false, Bool.false_or, Bool.and_self]
  refine hX _ _ ?_
  simp only [l43_0, r43_4, r43_6, r43_7, r43_5, hM, hW, g0, g1, g2, g3, g4, g5, wi, Int.reduceAdd, Int.zero_add, Int.le_refl, t1, t2, wc1, wc2, wc3, we1, we2, wd1, wd2, wd3, wf1, wf2, go_sem, bne_iff_ne, Int.cast_ofNat_Int, ↓reduceIte, Nat.reduceEqDiff, Nat.reduceAdd, Nat.reduceMul, Nat.reduceLeDiff, Nat.reduceSub, Nat.reduceLT, Int.reduceToNat, Int.reduceLT, Int.reduceLE, reduceCtorEq, Nat.zero_add, Nat.add_zero, and_self, and_true, true_and, ne_eq, not_false_eq_true, not_true_eq_false, decide_true, decide_false, Bool.false_eq_true, Bool.not_true, Bool.not_false, Bool.true_and, Bool.and_true, Bool.or_false, Bool.false_or, Bool.and_self]
  refine hX _ _ ?_
  simp only [l43_0, r43_4, Int.lt_irrefl, r43_8, go_sem, bne_iff_ne, Int.cast_ofNat_Int, ↓reduceIte, Nat.reduceEqDiff, Nat.reduceAdd, Nat.reduceMul, Nat.reduceLeDiff, Nat.reduceSub, Nat.reduceLT, Int.reduceToNat, Int.reduceLT, Int.reduceLE, reduceCtorEq, Nat.zero_add, Nat.add_zero, and_self, and_true, true_and, ne_eq, not_false_eq_true, not_true_eq_false, decide_true, decide_false, Bool.false_eq_true, Bool.not_true, Bool.not_false, Bool.true_and, Bool.and_true, Bool.or_false, Bool.false_or, Bool.and_self]
  rfl

set_option maxRecDepth 20000 in
set_option maxHeartbeats 4000000 in
theorem At43k (a b c e : Pt) (p q : Int) (dep : Nat) (hdep : dep ≤ 6) (hp : 0 ≤ p) (hq : 0 ≤ q) (hF : p + q = ((2 ^ dep : Nat) : Int)) (hv : (Cv.cub a b c e).inP = true) (r : Reg) (m : Mem) (n : Nat) (hr : RP m n r [a, b, c, e]) :
    Fn TA 43 [r, RI q, RI dep] m n (fun r' _ _ => r' = .tup [RI (val p q Pt.x (.cub a b c e)), RI (val p q Pt.y (.cub a b c e))]) := by
  refine Fn_of (fn := F43) rfl (by simp [F43]) ?_
  obtain ⟨L, hL⟩ : ∃ L_, L_ = SC.loop l43_0 := ⟨_, rfl⟩
  have hX : ∀ s Q, X TA l43_0 s (Next Q (fun s_ => X TA L s_ Q)) → X TA L s Q := by subst hL; exact fun _ _ h => X_loop h
  simp only [Cv.inP, Bool.and_eq_true, inP_iff] at hv
  obtain ⟨⟨⟨ha, hb⟩, hc⟩, he⟩ := hv
  have h64 : p + q ≤ 64 := by
    have h2 : (2 : Nat) ^ dep ≤ 2 ^ 6 := Nat.pow_le_pow_right (by omega) hdep
    have h4 : (2 : Nat) ^ dep ≤ 64 := h2
    rw [hF]
    omega
  have bp : 0 ≤ p ∧ p ≤ 64 := by omega
  have bq : 0 ≤ q ∧ q ≤ 64 := by omega
  have bpp := mul64 bp bp (by decide)
  have bpq := mul64 bp bq (by decide)
  have bqp := mul64 bq bp (by decide)
  have bqq := mul64 bq bq (by decide)
  have bm : 0 ≤ p * q + q * p ∧ p * q + q * p ≤ 8192 := by omega
  have bppp := mul64 bpp bp (by decide)
  have bppq := mul64 bpp bq (by decide)
  have bmp := mul64 bm bp (by decide)
  have bmq := mul64 bm bq (by decide)
  have bqqp := mul64 bqq bp (by decide)
  have bqqq := mul64 bqq bq (by decide)
  have b1 : 0 ≤ p * p * q + (p * q + q * p) * p ∧ p * p * q + (p * q + q * p) * p ≤ 1000000 := by omega
  have b2 : 0 ≤ (p * q + q * p) * q + q * q * p ∧ (p * q + q * p) * q + q * q * p ≤ 1000000 := by omega
  have mx0 := wmul bppp ha.1
  have wx0 : IntKind.i64.wrap (p * p * p * a.x) = p * p * p * a.x := wr_eq (by omega) (by omega)
  have mx1 := wmul b1 hb.1
  have wx1 : IntKind.i64.wrap ((p * p * q + (p * q + q * p) * p) * b.x) = (p * p * q + (p * q + q * p) * p) * b.x := wr_eq (by omega) (by omega)
  have sx1 : IntKind.i64.wrap (p * p * p * a.x + (p * p * q + (p * q + q * p) * p) * b.x) = p * p * p * a.x + (p * p * q + (p * q + q * p) * p) * b.x := wr_eq (by omega) (by omega)
  have mx2 := wmul b2 hc.1
  have wx2 : IntKind.i64.wrap (((p * q + q * p) * q + q * q * p) * c.x) = ((p * q + q * p) * q + q * q * p) * c.x := wr_eq (by omega) (by omega)
  have sx2 : IntKind.i64.wrap (p * p * p * a.x + (p * p * q + (p * q + q * p) * p) * b.x + ((p * q + q * p) * q + q * q * p) * c.x) = p * p * p * a.x + (p * p * q + (p * q + q * p) * p) * b.x + ((p * q + q * p) * q + q * q * p) * c.x := wr_eq (by omega) (by omega)
  have mx3 := wmul bqqq he.1
  have wx3 : IntKind.i64.wrap (q * q * q * e.x) = q * q * q * e.x := wr_eq (by omega) (by omega)
  have sx3 : IntKind.i64.wrap (p * p * p * a.x + (p * p * q + (p * q + q * p) * p) * b.x + ((p * q + q * p) * q + q * q * p) * c.x + q * q * q * e.x) = p * p * p * a.x + (p * p * q + (p * q + q * p) * p) * b.x + ((p * q + q * p) * q + q * q * p) * c.x + q * q * q * e.x := wr_eq (by omega) (by omega)
  have my0 := wmul bppp ha.2
  have wy0 : IntKind.i64.wrap (p * p * p * a.y) = p * p * p * a.y := wr_eq (by omega) (by omega)
  have my1 := wmul b1 hb.2
  have wy1 : IntKind.i64.wrap ((p * p * q + (p * q + q * p) * p) * b.y) = (p * p * q + (p * q + q * p) * p) * b.y := wr_eq (by omega) (by omega)
  have sy1 : IntKind.i64.wrap (p * p * p * a.y + (p * p * q + (p * q + q * p) * p) * b.y) = p * p * p * a.y + (p * p * q + (p * q + q * p) * p) * b.y := wr_eq (by omega) (by omega)
  have my2 := wmul b2 hc.2
  have wy2 : IntKind.i64.wrap (((p * q + q * p) * q + q * q * p) * c.y) = ((p * q + q * p) * q + q * q * p) * c.y := wr_eq (by omega) (by omega)
  have sy2 : IntKind.i64.wrap (p * p * p * a.y + (p * p * q + (p * q + q * p) * p) * b.y + ((p * q + q * p) * q + q * q * p) * c.y) = p * p * p * a.y + (p * p * q + (p * q + q * p) * p) * b.y + ((p * q + q * p) * q + q * q * p) * c.y := wr_eq (by omega) (by omega)
  have my3 := wmul bqqq he.2
  have wy3 : IntKind.i64.wrap (q * q * q * e.y) = q * q * q * e.y := wr_eq (by omega) (by omega)
  have sy3 : IntKind.i64.wrap (p * p * p * a.y + (p * p * q + (p * q + q * p) * p) * b.y + ((p * q + q * p) * q + q * q * p) * c.y + q * q * q * e.y) = p * p * p * a.y + (p * p * q + (p * q + q * p) * p) * b.y + ((p * q + q * p) * q + q * q * p) * c.y + q * q * q * e.y := wr_eq (by omega) (by omega)
  have wi : ∀ k : Int, -100 ≤ k → k ≤ 100 → IntKind.i64.wrap k = k := fun k h1 h2 => wr_eq (by omega) (by omega)
  have t1 : (1 : Int).toNat = 1 := rfl
  have t2 : (2 : Int).toNat = 2 := rfl
  have t3 : (3 : Int).toNat = 3 := rfl
  rcases hr with ⟨_, hz, _⟩ | ⟨id, off, cap, rfl, hid, hrd⟩
  · cases hz
  obtain ⟨B, hB, g0⟩ := rd_cell hrd (a := 0) (c := I a.x) rfl
  obtain ⟨_, q0, g1⟩ := rd_cell hrd (a := 1) (c := I a.y) rfl
  rw [hB] at q0; cases q0
  obtain ⟨_, q0, g2⟩ := rd_cell hrd (a := 2) (c := I b.x) rfl
  rw [hB] at q0; cases q0
  obtain ⟨_, q0, g3⟩ := rd_cell hrd (a := 3) (c := I b.y) rfl
  rw [hB] at q0; cases q0
  obtain ⟨_, q0, g4⟩ := rd_cell hrd (a := 4) (c := I c.x) rfl
  rw [hB] at q0; cases q0
  obtain ⟨_, q0, g5⟩ := rd_cell hrd (a := 5) (c := I c.y) rfl
  rw [hB] at q0; cases q0
  obtain ⟨_, q0, g6⟩ := rd_cell hrd (a := 6) (c := I e.x) rfl
  rw [hB] at q0; cases q0
  obtain ⟨_, q0, g7⟩ := rd_cell hrd (a := 7) (c := I e.y) rfl
  rw [hB] at q0; cases q0
  have g0 : B.cells[off]? = some (I a.x) := g0
  have g3 : B.cells[off + 2 + 1]? = some (I b.y) := g3
  have g5 : B.cells[off + 4 + 1]? = some (I c.y) := g5
  have g7 : B.cells[off + 6 + 1]? = some (I e.y) := g7
  simp only [F43, c43, r43_0, r43_1, go_sem, bne_iff_ne, Int.cast_ofNat_Int, ↓reduceIte, Nat.reduceEqDiff, Nat.reduceAdd, Nat.reduceMul, Nat.reduceLeDiff, Nat.reduceSub, Nat.reduceLT, Int.reduceToNat, Int.reduceLT, Int.reduceLE, reduceCtorEq, Nat.zero_add, Nat.add_zero, and_self, and_true, true_and, ne_eq, not_false_eq_true, not_true_eq_false, decide_true, decide_false, Bool.false_eq_true, Bool.not_true, Bool.not_false, Bool.true_and, Bool.and_true, Bool.or_false, Bool.false_or, Bool.and_self]
  refine R_callk ?_
  simp only [go_sem, bne_iff_ne, Int.cast_ofNat_Int, ↓reduceIte, Nat.reduceEqDiff, Nat.reduceAdd, Nat.reduceMul, Nat.reduceLeDiff, Nat.reduceSub, Nat.reduceLT, Int.reduceToNat, Int.reduceLT, Int.reduceLE, reduceCtorEq, Nat.zero_add, Nat.add_zero, and_self, and_true, true_and, ne_eq, not_false_eq_true, not_true_eq_false, decide_true, decide_false, Bool.false_eq_true, Bool.not_true, Bool.not_false, Bool.true_and, Bool.and_true, Bool.or_false, Bool.false_or, Bool.and_self]
  refine (weights4 p q dep hdep hp hq hF (frz m) n).mono ?_
  rintro _ m1 n1 ⟨hn1, _, iw, rfl, hw1, hw2, hw⟩
  have hmx : max n n1 = n1 := Nat.max_eq_right hn1
  have hM : unfrz m n m1 id = some B := by rw [unfrz_at, if_pos hid]; exact hB
  have hW : unfrz m n m1 iw = some ⟨[I (p * p * p), I (p * p * q + (p * q + q * p) * p), I ((p * q + q * p) * q + q * q * p), I (q * q * q)], true⟩ := by rw [unfrz_at, if_neg (by omega)]; exact hw
  rw [hmx]
  generalize unfrz m n m1 = M at hM hW ⊢
  simp only [r43_2, r43_3, ← hL, go_sem, bne_iff_ne, Int.cast_ofNat_Int, ↓reduceIte, Nat.reduceEqDiff, Nat.reduceAdd, Nat.reduceMul, Nat.reduceLeDiff, Nat.reduceSub, Nat.reduceLT, Int.reduceToNat, Int.reduceLT, Int.reduceLE, reduceCtorEq, Nat.zero_add, Nat.add_zero, and_self, and_true, true_and, ne_eq, not_false_eq_true, not_true_eq_false, decide_true, decide_false, Bool.false_eq_true, Bool.not_true, Bool.not_false, Bool.true_and, Bool.and_true, Bool.or_false, Bool.false_or, Bool.and_self]
  refine hX _ _ ?_
  simp only [l43_0, r43_4, r43_6, r43_7, r43_5, hM, hW, g0, g1, g2, g3, g4, g5, g6, g7, wi, Int.reduceAdd, Int.zero_add, Int.le_refl, t1, t2, t3, wx0, wx1, sx1, wx2, sx2, wx3, sx3, wy0, wy1, sy1, wy2, sy2, wy3, sy3, go_sem, bne_iff_ne, Int.cast_ofNat_Int, ↓reduceIte, Nat.reduceEqDiff, Nat.reduceAdd, Nat.reduceMul, Nat.reduceLeDiff, Nat.reduceSub, Nat.reduceLT, Int.reduceToNat, Int.reduceLT, Int.reduceLE, reduceCtorEq, Nat.zero_add, Nat.add_zero, and_self, and_true, true_and, ne_eq, not_false_eq_true, not_true_eq_false, decide_true, decide_false, Bool.false_eq_true, Bool.not_true, Bool.not_false, Bool.true_and, Bool.and_true, Bool.or_false, Bool.false_or, Bool.and_self]
  refine hX _ _ ?_
  simp only [l43_0, r43_4, r43_6, r43_7, r43_5, hM, hW, g0, g1, g2, g3, g4, g5, g6, g7, wi, Int.reduceAdd, Int.zero_add, Int.le_refl, t1, t2, t3, wx0, wx1, sx1, wx2, sx2, wx3, sx3, wy0, wy1, sy1, wy2, sy2, wy3, sy3, go_sem, bne_iff_ne, Int.cast_ofNat_Int, ↓reduceIte, Nat.reduceEqDiff, Nat.reduceAdd, Nat.reduceMul, Nat.reduceLeDiff, Nat.reduceSub, Nat.reduceLT, Int.reduceToNat, Int.reduceLT, Int.reduceLE, reduceCtorEq, Nat.zero_add, Nat.add_zero, and_self, and_true, true_and, ne_eq, not_false_eq_true, not_true_eq_false, decide_true, decide_false, Bool.false_eq_true, Bool.not_true, Bool.not_false, Bool.true_and, Bool.and_true, Bool.or_false, Bool.false_or, Bool.and_self]
  refine hX _ _ ?_
  simp only [l43_0, r43_4, r43_6, r43_7, r43_5, hM, hW, g0, g1, g2, g3, g4, g5, g6, g7, wi, Int.reduceAdd, Int.zero_add, Int.le_refl, t1, t2, t3, wx0, wx1, sx1, wx2, sx2, wx3, sx3, wy0, wy1, sy1, wy2, sy2, wy3, sy3, go_sem, bne_iff_ne, Int.cast_ofNat_Int, ↓reduceIte, Nat.reduceEqDiff, Nat.reduceAdd, Nat.reduceMul, Nat.reduceLeDiff, Nat.reduceSub, Nat.reduceLT, Int.reduceToNat, Int.reduceLT, Int.reduceLE, reduceCtorEq, Nat.zero_add, Nat.add_zero, and_self, and_true, true_and, ne_eq, not_false_eq_true, not_true_eq_false, decide_true, decide_false, Bool.false_eq_true, Bool.not_true, Bool.not_false, Bool.true_and, Bool.and_true, Bool.or_false, Bool.false_or, Bool.and_self]
  refine hX _ _ ?_
  simp only [l43_0, r43_4, r43_6, r43_7, r43_5, hM, hW, g0, g1, g2, g3, g4, g5, g6, g7, wi, Int.reduceAdd, Int.zero_add, Int.le_refl, t1, t2, t3, wx0, wx1, sx1, wx2, sx2, wx3, sx3, wy0, wy1, sy1, wy2, sy2, wy3, sy3, go_sem, bne_iff_ne, Int.cast_ofNat_Int, ↓reduceIte, Nat.reduceEqDiff, Nat.reduceAdd, Nat.reduceMul, Nat.reduceLeDiff, Nat.reduceSub, Nat.reduceLT, Int.reduceToNat, Int.reduceLT, Int.reduceLE, reduceCtorEq, Nat.zero_add, Nat.add_zero, and_self, and_true, true_and, ne_eq, not_false_eq_true, not_true_eq_false, decide_true, decide_false, Bool.false_eq_true, Bool.not_true, Bool.not_false, Bool.true_and, Bool.and_true, Bool.or_false, Bool.false_or, Bool.and_self]
  refine hX _ _ ?_
  simp only [l43_0, r43_4, Int.lt_irrefl, r43_8, go_sem, bne_iff_ne, Int.cast_ofNat_Int, ↓reduceIte, Nat.reduceEqDiff, Nat.reduceAdd, Nat.reduceMul, Nat.reduceLeDiff, Nat.reduceSub, Nat.reduceLT, Int.reduceToNat, Int.reduceLT, Int.reduceLE, reduceCtorEq, Nat.zero_add, Nat.add_zero, and_self, and_true, true_and, ne_eq, not_false_eq_true, not_true_eq_false, decide_true, decide_false, Bool.false_eq_true, Bool.not_true, Bool.not_false, Bool.true_and, Bool.and_true, Bool.or_false, Bool.false_or, Bool.and_self]
  rfl

theorem At43 (v : Cv) (p q : Int) (dep : Nat) (hdep : dep ≤ 6) (hp : 0 ≤ p) (hq : 0 ≤ q) (hF : p + q = ((2 ^ dep : Nat) : Int)) (hv : v.inP = true) (r : Reg) (m : Mem) (n : Nat) (hr : RP m n r v.pts) :
    Fn TA 43 [r, RI q, RI dep] m n (fun r' _ _ => r' = .tup [RI (val p q Pt.x v), RI (val p q Pt.y v)]) := by
  cases v with
  | quad a b c => exact At43q a b c p q dep hdep hp hq hF hv r m n hr
  | cub a b c e => exact At43k a b c e p q dep hdep hp hq hF hv r m n hr
end Go.Proofs.Ytkneefkhggacmaa.Sy
