/- Curves: the law CurveParts. Conditions: those that each theorem names. -/
import Derived.Test.YtkneefkhggacmaaCvO
namespace Go.Proofs.Ytkneefkhggacmaa.Sy
open Go Go.Proofs
set_option linter.unusedSimpArgs false
set_option linter.unusedVariables false
attribute [local go_sem] R_nil R_mv R_pick R_alloc R_box R_build R_bslice R_load1 R_loadA R_store R_nilchk R_bin R_beq R_eqv R_eqnil R_un R_conv R_mkfn R_mkslice R_slS R_slA R_fadr R_fld R_iadrA R_iadrS R_idxA R_ext R_len R_lenC R_cap R_app R_cpy R_mn R_mx
  evalOp evO evOs upd_upd upd_at unfrz_at putE_some putE_none Then_some X_seq X_reg X_dreg X_ret X_skip X_exit X_block X_condK condK_bool Next_n Next_x Next_r Out_n Out_x Out_r Ret_n Ret_r
  bin_shr1 bin_add bin_sub bin_mul bin_lss bin_leq bin_gtr bin_geq bin_eql bin_neq un_not un_neg boolOf_b boolOf_tup R_guard Option.map_some evRes pack_one pack_two pack_three pack_none List.getD_cons_zero List.getD_cons_succ getD_nil
  Option.some.injEq exists_eq_left' Reg.cs? fillC setL List.set_cons_zero List.set_cons_succ List.length_cons List.length_nil rd_upd rdB wr List.drop_zero List.drop_succ_cons List.take_succ_cons List.take_zero List.getElem?_cons_zero List.getElem?_cons_succ
  ix Int.toNat_zero lenO_sl lenO_nil sn1 ns1 sn2 ns2 sn3 ns3 sn4 ns4 sn5 ns5 sn6 ns6 sn7 ns7 sn8 ns8 sn9 ns9 sn10 ns10 sn11 ns11 sn12 ns12 sk1_2 sk1_3 sk1_4 sk1_5 sk1_6 sk1_7 sk1_8 sk2_1 sk2_3 sk2_4 sk2_5 sk2_6 sk2_7 sk2_8 sk3_1 sk3_2 sk3_4 sk3_5 sk3_6 sk3_7 sk3_8 sk4_1 sk4_2 sk4_3 sk4_5 sk4_6 sk4_7 sk4_8 sk5_1 sk5_2 sk5_3 sk5_4 sk5_6 sk5_7 sk5_8 sk6_1 sk6_2 sk6_3 sk6_4 sk6_5 sk6_7 sk6_8 sk7_1 sk7_2 sk7_3 sk7_4 sk7_5 sk7_6 sk7_8 sk8_1 sk8_2 sk8_3 sk8_4 sk8_5 sk8_6 sk8_7

theorem mid_self (p : Pt) : mid p p = p := by
  cases p with
  | mk x y => simp only [mid, Pt.mk.injEq]; omega
theorem flat_one (p : Pt) : ∀ (d : Nat) (q : Pt), q ∈ flat d (.quad p p p) → q = p
  | 0, q, h => by simpa [flat, Cv.last] using h
  | d + 1, q, h => by
    simp only [flat, Cv.fst, Cv.snd, mid_self, List.mem_append] at h
    rcases h with h | h <;> exact flat_one p d q h

theorem bin_shl_small (d : Nat) (h : d ≤ 6) : binV .shl (.int .i64 1) (.int .i64 d) = some (.int .i64 ((2 ^ d : Nat) : Int)) := by
  rw [bin_shl (by omega) (by omega)]
  have h2 : (2 : Nat) ^ d ≤ 2 ^ 6 := Nat.pow_le_pow_right (by omega) h
  have h3 : ((2 : Int) ^ (d : Int).toNat) = ((2 ^ d : Nat) : Int) := by rw [Int.toNat_natCast]; norm_cast
  have h4 : (2 : Nat) ^ d ≤ 64 := h2
  rw [Int.one_mul, h3]
  generalize (2 : Nat) ^ d = k at h4 ⊢
  rw [wr_eq (by omega) (by omega)]

/-- Two lists behind an empty one. -/
theorem bothApp {base n : Nat} {m : Mem} {rx ry : Reg} {a b : List Pt} (hx : RP m n rx a) (hy : RP m n ry b) (hbn : base ≤ n) (ha : 0 < a.length) (hb : 0 < b.length) (hle : a.length + b.length ≤ 1000000) :
    ∃ r1 m1 r2 m2, evApp (upd m n (some ⟨[], true⟩)) (n + 1) 2 16 (.one (.sl n 0 0 (some 0) 2)) rx = some (r1, m1, n + 1 + 1) ∧ evApp m1 (n + 1 + 1) 2 16 r1 ry = some (r2, m2, n + 1 + 1 + 1) ∧ RP m2 (n + 1 + 1 + 1) r2 (a ++ b) ∧ ∀ i, i < n → m2 i = m i := by
  have hx1 : RP (upd m n (some ⟨[], true⟩)) (n + 1) rx a := RP.keep' hx (by omega) (fun i hi => upd_ne _ _ (by have := RP.lt hx hi; omega))
  have hnew : newsOf (upd m n (some ⟨[], true⟩)) 2 rx = some (a.length, encP a) := by
    rcases hx1 with ⟨_, hz, _⟩ | ⟨id, off, cap, rfl, _, h⟩
    · omega
    · simp [newsOf, h]
  obtain ⟨m1, g1, g2, g3⟩ := evApp_push (m := upd m n (some ⟨[], true⟩)) (n := n + 1) (by' := 16) (id := n) (len := 0) (cap := some 0) (olds := []) hnew ha (by omega) (upd_same _ _ _) rfl (by simp [Sy.rd, upd_same]) (Or.inr ⟨0, rfl, by omega⟩)
  rw [Nat.zero_add] at g1
  have k1 : ∀ i, i < n → m1 i = m i := fun i hi => by rw [g3 i (by omega) (by omega), upd_ne _ _ (by omega)]
  have hG : Gr n m1 (n + 1 + 1) (.one (.sl (n + 1) 0 a.length none 2)) a := ⟨n + 1, none, rfl, by omega, by omega, by simpa using g2, Or.inl rfl⟩
  have hy1 : RP m1 (n + 1 + 1) ry b := RP.keep' hy (by omega) (fun i hi => k1 i (RP.lt hy hi))
  obtain ⟨r2, m2, q1, q2, q3⟩ := join (by' := 16) hG hy1 (by omega) hb (by omega)
  refine ⟨_, m1, r2, m2, g1, q1, q2.sn.1, fun i hi => ?_⟩
  rw [q3 i (by omega) (fun hs => by have := hG.sn.2 i hs; omega)]
  exact k1 i hi

theorem law13 (l : List Pt) (d : Int) (r : Reg) (m : Mem) (n : Nat) (hl : l.length ≤ 9223372036854775807) (hr : RP m n r l) : Fn TA 13 [r, RI d] m n (fun r' _ _ => r' = RB true) := by
  refine Fn_of (fn := F13) rfl (by simp [F13]) ?_
  obtain ⟨L, hL⟩ : ∃ L_, L_ = SC.loop l13_0 := ⟨_, rfl⟩
  have hX : ∀ s Q, X TA l13_0 s (Next Q (fun s_ => X TA L s_ Q)) → X TA L s Q := by subst hL; exact fun _ _ h => X_loop h
  simp only [F13, c13, r13_0, r13_1, go_sem, bne_iff_ne, Int.cast_ofNat_Int, ↓reduceIte, Nat.reduceEqDiff, Nat.reduceAdd, Nat.reduceMul, Nat.reduceLeDiff, Nat.reduceSub, Nat.reduceLT, Int.reduceToNat, Int.reduceLT, Int.reduceLE, reduceCtorEq, Nat.zero_add, Nat.add_zero, and_self, and_true, true_and, ne_eq, not_false_eq_true, not_true_eq_false, decide_true, decide_false, Bool.false_eq_true, Bool.not_true, Bool.not_false, Bool.true_and, Bool.and_true, Bool.or_false, Bool.false_or, Bool.and_self]
  refine R_callq ?_
  simp only [go_sem, bne_iff_ne, Int.cast_ofNat_Int, ↓reduceIte, Nat.reduceEqDiff, Nat.reduceAdd, Nat.reduceMul, Nat.reduceLeDiff, Nat.reduceSub, Nat.reduceLT, Int.reduceToNat, Int.reduceLT, Int.reduceLE, reduceCtorEq, Nat.zero_add, Nat.add_zero, and_self, and_true, true_and, ne_eq, not_false_eq_true, not_true_eq_false, decide_true, decide_false, Bool.false_eq_true, Bool.not_true, Bool.not_false, Bool.true_and, Bool.and_true, Bool.or_false, Bool.false_or, Bool.and_self]
  refine (right39 r l _ n (Rd.frz hr) hl).mono ?_
  rintro _ _ _ rfl
  refine ⟨rfl, ?_⟩
  by_cases hno : ¬ (l.all inP = true ∧ (l.length = 3 ∨ l.length = 4)) ∨ d < 1 ∨ 6 < d
  · rcases hc : (l.all inP && (decide (l.length = 3) || decide (l.length = 4))) with _ | _
    · simp only [r13_2, go_sem, bne_iff_ne, Int.cast_ofNat_Int, ↓reduceIte, Nat.reduceEqDiff, Nat.reduceAdd, Nat.reduceMul, Nat.reduceLeDiff, Nat.reduceSub, Nat.reduceLT, Int.reduceToNat, Int.reduceLT, Int.reduceLE, reduceCtorEq, Nat.zero_add, Nat.add_zero, and_self, and_true, true_and, ne_eq, not_false_eq_true, not_true_eq_false, decide_true, decide_false, Bool.false_eq_true, Bool.not_true, Bool.not_false, Bool.true_and, Bool.and_true, Bool.or_false, Bool.false_or, Bool.and_self]
      refine R_callz (by first | (simp only [flats, Reg.flat, Cell.flat, List.all_cons, List.all_nil, Bool.and_self, go_sem, bne_iff_ne, Int.cast_ofNat_Int, ↓reduceIte, Nat.reduceEqDiff, Nat.reduceAdd, Nat.reduceMul, Nat.reduceLeDiff, Nat.reduceSub, Nat.reduceLT, Int.reduceToNat, Int.reduceLT, Int.reduceLE, reduceCtorEq, Nat.zero_add, Nat.add_zero, and_self, and_true, true_and, ne_eq, not_false_eq_true, not_true_eq_false, decide_true, decide_false, Bool.false_eq_true, Bool.not_true, Bool.not_false, Bool.true_and, Bool.and_true, Bool.or_false, Bool.false_or, Bool.and_self]; done) | rfl) ?_
      try simp only [go_sem, bne_iff_ne, Int.cast_ofNat_Int, ↓reduceIte, Nat.reduceEqDiff, Nat.reduceAdd, Nat.reduceMul, Nat.reduceLeDiff, Nat.reduceSub, Nat.reduceLT, Int.reduceToNat, Int.reduceLT, Int.reduceLE, reduceCtorEq, Nat.zero_add, Nat.add_zero, and_self, and_true, true_and, ne_eq, not_false_eq_true, not_true_eq_false, decide_true, decide_false, Bool.false_eq_true, Bool.not_true, Bool.not_false, Bool.true_and, Bool.and_true, Bool.or_false, Bool.false_or, Bool.and_self]
      refine Fn.mono (awake37) ?_
      rintro _ _ _ rfl
      refine ⟨rfl, ?_⟩
      try simp only [go_sem, bne_iff_ne, Int.cast_ofNat_Int, ↓reduceIte, Nat.reduceEqDiff, Nat.reduceAdd, Nat.reduceMul, Nat.reduceLeDiff, Nat.reduceSub, Nat.reduceLT, Int.reduceToNat, Int.reduceLT, Int.reduceLE, reduceCtorEq, Nat.zero_add, Nat.add_zero, and_self, and_true, true_and, ne_eq, not_false_eq_true, not_true_eq_false, decide_true, decide_false, Bool.false_eq_true, Bool.not_true, Bool.not_false, Bool.true_and, Bool.and_true, Bool.or_false, Bool.false_or, Bool.and_self]
    · have hc' : l.all inP = true ∧ (l.length = 3 ∨ l.length = 4) := by simpa using hc
      rcases hno with h | h | h
      · exact absurd hc' h
      · simp only [h, r13_2, go_sem, bne_iff_ne, Int.cast_ofNat_Int, ↓reduceIte, Nat.reduceEqDiff, Nat.reduceAdd, Nat.reduceMul, Nat.reduceLeDiff, Nat.reduceSub, Nat.reduceLT, Int.reduceToNat, Int.reduceLT, Int.reduceLE, reduceCtorEq, Nat.zero_add, Nat.add_zero, and_self, and_true, true_and, ne_eq, not_false_eq_true, not_true_eq_false, decide_true, decide_false, Bool.false_eq_true, Bool.not_true, Bool.not_false, Bool.true_and, Bool.and_true, Bool.or_false, Bool.false_or, Bool.and_self]
        refine R_callz (by first | (simp only [flats, Reg.flat, Cell.flat, List.all_cons, List.all_nil, Bool.and_self, go_sem, bne_iff_ne, Int.cast_ofNat_Int, ↓reduceIte, Nat.reduceEqDiff, Nat.reduceAdd, Nat.reduceMul, Nat.reduceLeDiff, Nat.reduceSub, Nat.reduceLT, Int.reduceToNat, Int.reduceLT, Int.reduceLE, reduceCtorEq, Nat.zero_add, Nat.add_zero, and_self, and_true, true_and, ne_eq, not_false_eq_true, not_true_eq_false, decide_true, decide_false, Bool.false_eq_true, Bool.not_true, Bool.not_false, Bool.true_and, Bool.and_true, Bool.or_false, Bool.false_or, Bool.and_self]; done) | rfl) ?_
        try simp only [go_sem, bne_iff_ne, Int.cast_ofNat_Int, ↓reduceIte, Nat.reduceEqDiff, Nat.reduceAdd, Nat.reduceMul, Nat.reduceLeDiff, Nat.reduceSub, Nat.reduceLT, Int.reduceToNat, Int.reduceLT, Int.reduceLE, reduceCtorEq, Nat.zero_add, Nat.add_zero, and_self, and_true, true_and, ne_eq, not_false_eq_true, not_true_eq_false, decide_true, decide_false, Bool.false_eq_true, Bool.not_true, Bool.not_false, Bool.true_and, Bool.and_true, Bool.or_false, Bool.false_or, Bool.and_self]
        refine Fn.mono (awake37) ?_
        rintro _ _ _ rfl
        refine ⟨rfl, ?_⟩
        try simp only [go_sem, bne_iff_ne, Int.cast_ofNat_Int, ↓reduceIte, Nat.reduceEqDiff, Nat.reduceAdd, Nat.reduceMul, Nat.reduceLeDiff, Nat.reduceSub, Nat.reduceLT, Int.reduceToNat, Int.reduceLT, Int.reduceLE, reduceCtorEq, Nat.zero_add, Nat.add_zero, and_self, and_true, true_and, ne_eq, not_false_eq_true, not_true_eq_false, decide_true, decide_false, Bool.false_eq_true, Bool.not_true, Bool.not_false, Bool.true_and, Bool.and_true, Bool.or_false, Bool.false_or, Bool.and_self]
      · by_cases h0 : d < 1
        · simp only [h0, r13_2, go_sem, bne_iff_ne, Int.cast_ofNat_Int, ↓reduceIte, Nat.reduceEqDiff, Nat.reduceAdd, Nat.reduceMul, Nat.reduceLeDiff, Nat.reduceSub, Nat.reduceLT, Int.reduceToNat, Int.reduceLT, Int.reduceLE, reduceCtorEq, Nat.zero_add, Nat.add_zero, and_self, and_true, true_and, ne_eq, not_false_eq_true, not_true_eq_false, decide_true, decide_false, Bool.false_eq_true, Bool.not_true, Bool.not_false, Bool.true_and, Bool.and_true, Bool.or_false, Bool.false_or, Bool.and_self]
          refine R_callz (by first | (simp only [flats, Reg.flat, Cell.flat, List.all_cons, List.all_nil, Bool.and_self, go_sem, bne_iff_ne, Int.cast_ofNat_Int, ↓reduceIte, Nat.reduceEqDiff, Nat.reduceAdd, Nat.reduceMul, Nat.reduceLeDiff, Nat.reduceSub, Nat.reduceLT, Int.reduceToNat, Int.reduceLT, Int.reduceLE, reduceCtorEq, Nat.zero_add, Nat.add_zero, and_self, and_true, true_and, ne_eq, not_false_eq_true, not_true_eq_false, decide_true, decide_false, Bool.false_eq_true, Bool.not_true, Bool.not_false, Bool.true_and, Bool.and_true, Bool.or_false, Bool.false_or, Bool.and_self]; done) | rfl) ?_
          try simp only [go_sem, bne_iff_ne, Int.cast_ofNat_Int, ↓reduceIte, Nat.reduceEqDiff, Nat.reduceAdd, Nat.reduceMul, Nat.reduceLeDiff, Nat.reduceSub, Nat.reduceLT, Int.reduceToNat, Int.reduceLT, Int.reduceLE, reduceCtorEq, Nat.zero_add, Nat.add_zero, and_self, and_true, true_and, ne_eq, not_false_eq_true, not_true_eq_false, decide_true, decide_false, Bool.false_eq_true, Bool.not_true, Bool.not_false, Bool.true_and, Bool.and_true, Bool.or_false, Bool.false_or, Bool.and_self]
          refine Fn.mono (awake37) ?_
          rintro _ _ _ rfl
          refine ⟨rfl, ?_⟩
          try simp only [go_sem, bne_iff_ne, Int.cast_ofNat_Int, ↓reduceIte, Nat.reduceEqDiff, Nat.reduceAdd, Nat.reduceMul, Nat.reduceLeDiff, Nat.reduceSub, Nat.reduceLT, Int.reduceToNat, Int.reduceLT, Int.reduceLE, reduceCtorEq, Nat.zero_add, Nat.add_zero, and_self, and_true, true_and, ne_eq, not_false_eq_true, not_true_eq_false, decide_true, decide_false, Bool.false_eq_true, Bool.not_true, Bool.not_false, Bool.true_and, Bool.and_true, Bool.or_false, Bool.false_or, Bool.and_self]
        · simp only [h0, h, r13_2, go_sem, bne_iff_ne, Int.cast_ofNat_Int, ↓reduceIte, Nat.reduceEqDiff, Nat.reduceAdd, Nat.reduceMul, Nat.reduceLeDiff, Nat.reduceSub, Nat.reduceLT, Int.reduceToNat, Int.reduceLT, Int.reduceLE, reduceCtorEq, Nat.zero_add, Nat.add_zero, and_self, and_true, true_and, ne_eq, not_false_eq_true, not_true_eq_false, decide_true, decide_false, Bool.false_eq_true, Bool.not_true, Bool.not_false, Bool.true_and, Bool.and_true, Bool.or_false, Bool.false_or, Bool.and_self]
          refine R_callz (by first | (simp only [flats, Reg.flat, Cell.flat, List.all_cons, List.all_nil, Bool.and_self, go_sem, bne_iff_ne, Int.cast_ofNat_Int, ↓reduceIte, Nat.reduceEqDiff, Nat.reduceAdd, Nat.reduceMul, Nat.reduceLeDiff, Nat.reduceSub, Nat.reduceLT, Int.reduceToNat, Int.reduceLT, Int.reduceLE, reduceCtorEq, Nat.zero_add, Nat.add_zero, and_self, and_true, true_and, ne_eq, not_false_eq_true, not_true_eq_false, decide_true, decide_false, Bool.false_eq_true, Bool.not_true, Bool.not_false, Bool.true_and, Bool.and_true, Bool.or_false, Bool.false_or, Bool.and_self]; done) | rfl) ?_
          try simp only [go_sem, bne_iff_ne, Int.cast_ofNat_Int, ↓reduceIte, Nat.reduceEqDiff, Nat.reduceAdd, Nat.reduceMul, Nat.reduceLeDiff, Nat.reduceSub, Nat.reduceLT, Int.reduceToNat, Int.reduceLT, Int.reduceLE, reduceCtorEq, Nat.zero_add, Nat.add_zero, and_self, and_true, true_and, ne_eq, not_false_eq_true, not_true_eq_false, decide_true, decide_false, Bool.false_eq_true, Bool.not_true, Bool.not_false, Bool.true_and, Bool.and_true, Bool.or_false, Bool.false_or, Bool.and_self]
          refine Fn.mono (awake37) ?_
          rintro _ _ _ rfl
          refine ⟨rfl, ?_⟩
          try simp only [go_sem, bne_iff_ne, Int.cast_ofNat_Int, ↓reduceIte, Nat.reduceEqDiff, Nat.reduceAdd, Nat.reduceMul, Nat.reduceLeDiff, Nat.reduceSub, Nat.reduceLT, Int.reduceToNat, Int.reduceLT, Int.reduceLE, reduceCtorEq, Nat.zero_add, Nat.add_zero, and_self, and_true, true_and, ne_eq, not_false_eq_true, not_true_eq_false, decide_true, decide_false, Bool.false_eq_true, Bool.not_true, Bool.not_false, Bool.true_and, Bool.and_true, Bool.or_false, Bool.false_or, Bool.and_self]
  · have hyes : (l.all inP = true ∧ (l.length = 3 ∨ l.length = 4)) ∧ 1 ≤ d ∧ d ≤ 6 := by
      refine ⟨Classical.byContradiction fun h => hno (Or.inl h), ?_, ?_⟩
      · have : ¬ d < 1 := fun h => hno (Or.inr (Or.inl h)); omega
      · have : ¬ 6 < d := fun h => hno (Or.inr (Or.inr h)); omega
    obtain ⟨⟨hall, h34⟩, hd0, hd6⟩ := hyes
    obtain ⟨v, hv⟩ := toCv_some h34
    obtain ⟨hp, hin, _⟩ := toCv_pts hv
    subst hp
    have hc : (v.pts.all inP && (decide (v.pts.length = 3) || decide (v.pts.length = 4))) = true := by
      rw [hall]; simpa using h34
    rw [hc]
    rw [hin] at hall
    obtain ⟨d1, rfl⟩ := Int.eq_ofNat_of_zero_le (show 0 ≤ d by omega)
    obtain ⟨dn, rfl⟩ : ∃ dn, d1 = dn + 1 := ⟨d1 - 1, by omega⟩
    have hdn : dn + 1 ≤ 6 := by omega
    have hnd0 : ¬ (((dn + 1 : Nat) : Int) < 1) := by omega
    have hnd6 : ¬ ((6 : Int) < ((dn + 1 : Nat) : Int)) := by omega
    have hw : IntKind.i64.wrap (((dn + 1 : Nat) : Int) - 1) = (dn : Int) := by rw [wr_eq (by omega) (by omega)]; omega
    have hfl := flat_length (dn + 1) v
    have hff := flat_length dn v.fst
    have hfs := flat_length dn v.snd
    have hpw : (2 : Nat) ^ (dn + 1) ≤ 64 := by
      have : (2 : Nat) ^ (dn + 1) ≤ 2 ^ 6 := Nat.pow_le_pow_right (by omega) (by omega)
      omega
    have hpw2 : (2 : Nat) ^ dn ≤ 64 := by
      have : (2 : Nat) ^ dn ≤ 2 ^ 6 := Nat.pow_le_pow_right (by omega) (by omega)
      omega
    have hpos : 0 < (2 : Nat) ^ dn := Nat.two_pow_pos dn
    simp only [hnd0, hnd6, r13_3, go_sem, bne_iff_ne, Int.cast_ofNat_Int, ↓reduceIte, Nat.reduceEqDiff, Nat.reduceAdd, Nat.reduceMul, Nat.reduceLeDiff, Nat.reduceSub, Nat.reduceLT, Int.reduceToNat, Int.reduceLT, Int.reduceLE, reduceCtorEq, Nat.zero_add, Nat.add_zero, and_self, and_true, true_and, ne_eq, not_false_eq_true, not_true_eq_false, decide_true, decide_false, Bool.false_eq_true, Bool.not_true, Bool.not_false, Bool.true_and, Bool.and_true, Bool.or_false, Bool.false_or, Bool.and_self]
    refine R_callk ?_
    simp only [go_sem, bne_iff_ne, Int.cast_ofNat_Int, ↓reduceIte, Nat.reduceEqDiff, Nat.reduceAdd, Nat.reduceMul, Nat.reduceLeDiff, Nat.reduceSub, Nat.reduceLT, Int.reduceToNat, Int.reduceLT, Int.reduceLE, reduceCtorEq, Nat.zero_add, Nat.add_zero, and_self, and_true, true_and, ne_eq, not_false_eq_true, not_true_eq_false, decide_true, decide_false, Bool.false_eq_true, Bool.not_true, Bool.not_false, Bool.true_and, Bool.and_true, Bool.or_false, Bool.false_or, Bool.and_self]
    refine (Flat38 v r (dn + 1) (frz m) n (Rd.frz hr) hall hdn).mono ?_
    rintro _ m1 n1 ⟨rs, rfl, hn1, _, how⟩
    have hmx : max n n1 = n1 := Nat.max_eq_right hn1
    have hr1 : RP (unfrz m n m1) n1 r v.pts := RP.keep' hr hn1 (fun i hi => by rw [unfrz_at, if_pos (RP.lt hr hi)])
    have hs1 : RP (unfrz m n m1) n1 rs (flat (dn + 1) v) := (Sn.unfrz (m := m) how.sn).1
    rw [hmx]
    generalize unfrz m n m1 = M1 at hr1 hs1 ⊢
    simp only [r13_4, go_sem, bne_iff_ne, Int.cast_ofNat_Int, ↓reduceIte, Nat.reduceEqDiff, Nat.reduceAdd, Nat.reduceMul, Nat.reduceLeDiff, Nat.reduceSub, Nat.reduceLT, Int.reduceToNat, Int.reduceLT, Int.reduceLE, reduceCtorEq, Nat.zero_add, Nat.add_zero, and_self, and_true, true_and, ne_eq, not_false_eq_true, not_true_eq_false, decide_true, decide_false, Bool.false_eq_true, Bool.not_true, Bool.not_false, Bool.true_and, Bool.and_true, Bool.or_false, Bool.false_or, Bool.and_self]
    refine R_callk ?_
    refine (Halves45 v r (frz M1) n1 (Rd.frz hr1) hall).mono ?_
    rintro _ m2 n2 ⟨ra, rb, rfl, hn2, _, ha, hb⟩
    have hmx2 : max n1 n2 = n2 := Nat.max_eq_right hn2
    have hr2 : RP (unfrz M1 n1 m2) n2 r v.pts := RP.keep' hr1 hn2 (fun i hi => by rw [unfrz_at, if_pos (RP.lt hr1 hi)])
    have hs2 : RP (unfrz M1 n1 m2) n2 rs (flat (dn + 1) v) := RP.keep' hs1 hn2 (fun i hi => by rw [unfrz_at, if_pos (RP.lt hs1 hi)])
    have ha2 : RP (unfrz M1 n1 m2) n2 ra v.fst.pts := (Sn.unfrz (m := M1) ha.sn).1
    have hb2 : RP (unfrz M1 n1 m2) n2 rb v.snd.pts := (Sn.unfrz (m := M1) hb.sn).1
    rw [hmx2]
    generalize unfrz M1 n1 m2 = M2 at hr2 hs2 ha2 hb2 ⊢
    simp only [r13_5, hw, go_sem, bne_iff_ne, Int.cast_ofNat_Int, ↓reduceIte, Nat.reduceEqDiff, Nat.reduceAdd, Nat.reduceMul, Nat.reduceLeDiff, Nat.reduceSub, Nat.reduceLT, Int.reduceToNat, Int.reduceLT, Int.reduceLE, reduceCtorEq, Nat.zero_add, Nat.add_zero, and_self, and_true, true_and, ne_eq, not_false_eq_true, not_true_eq_false, decide_true, decide_false, Bool.false_eq_true, Bool.not_true, Bool.not_false, Bool.true_and, Bool.and_true, Bool.or_false, Bool.false_or, Bool.and_self]
    refine R_callk ?_
    refine (Flat38 v.fst ra dn (frz M2) n2 (Rd.frz ha2) (Cv.inP_fst hall) (by omega)).mono ?_
    rintro _ m3 n3 ⟨rx, rfl, hn3, _, hx⟩
    have hmx3 : max n2 n3 = n3 := Nat.max_eq_right hn3
    have hr3 : RP (unfrz M2 n2 m3) n3 r v.pts := RP.keep' hr2 hn3 (fun i hi => by rw [unfrz_at, if_pos (RP.lt hr2 hi)])
    have hs3 : RP (unfrz M2 n2 m3) n3 rs (flat (dn + 1) v) := RP.keep' hs2 hn3 (fun i hi => by rw [unfrz_at, if_pos (RP.lt hs2 hi)])
    have hb3 : RP (unfrz M2 n2 m3) n3 rb v.snd.pts := RP.keep' hb2 hn3 (fun i hi => by rw [unfrz_at, if_pos (RP.lt hb2 hi)])
    have hx3 : RP (unfrz M2 n2 m3) n3 rx (flat dn v.fst) := (Sn.unfrz (m := M2) hx.sn).1
    rw [hmx3]
    generalize unfrz M2 n2 m3 = M3 at hr3 hs3 hb3 hx3 ⊢
    simp only [r13_6, hw, go_sem, bne_iff_ne, Int.cast_ofNat_Int, ↓reduceIte, Nat.reduceEqDiff, Nat.reduceAdd, Nat.reduceMul, Nat.reduceLeDiff, Nat.reduceSub, Nat.reduceLT, Int.reduceToNat, Int.reduceLT, Int.reduceLE, reduceCtorEq, Nat.zero_add, Nat.add_zero, and_self, and_true, true_and, ne_eq, not_false_eq_true, not_true_eq_false, decide_true, decide_false, Bool.false_eq_true, Bool.not_true, Bool.not_false, Bool.true_and, Bool.and_true, Bool.or_false, Bool.false_or, Bool.and_self]
    refine R_callk ?_
    refine (Flat38 v.snd rb dn (frz M3) n3 (Rd.frz hb3) (Cv.inP_snd hall) (by omega)).mono ?_
    rintro _ m4 n4 ⟨ry, rfl, hn4, _, hy⟩
    have hmx4 : max n3 n4 = n4 := Nat.max_eq_right hn4
    have hr4 : RP (unfrz M3 n3 m4) n4 r v.pts := RP.keep' hr3 hn4 (fun i hi => by rw [unfrz_at, if_pos (RP.lt hr3 hi)])
    have hs4 : RP (unfrz M3 n3 m4) n4 rs (flat (dn + 1) v) := RP.keep' hs3 hn4 (fun i hi => by rw [unfrz_at, if_pos (RP.lt hs3 hi)])
    have hx4 : RP (unfrz M3 n3 m4) n4 rx (flat dn v.fst) := RP.keep' hx3 hn4 (fun i hi => by rw [unfrz_at, if_pos (RP.lt hx3 hi)])
    have hy4 : RP (unfrz M3 n3 m4) n4 ry (flat dn v.snd) := (Sn.unfrz (m := M3) hy.sn).1
    rw [hmx4]
    generalize unfrz M3 n3 m4 = M4 at hr4 hs4 hx4 hy4 ⊢
    obtain ⟨q1, w1, q2, w2, g1, g2, hq2, hold⟩ := bothApp (base := n4) hx4 hy4 (Nat.le_refl _) (by omega) (by omega) (by omega)
    have hr5 : RP w2 (n4 + 1 + 1 + 1) r v.pts := RP.keep' hr4 (by omega) (fun i hi => hold i (RP.lt hr4 hi))
    have hs5 : RP w2 (n4 + 1 + 1 + 1) rs (flat (dn + 1) v) := RP.keep' hs4 (by omega) (fun i hi => hold i (RP.lt hs4 hi))
    have hq5 : RP w2 (n4 + 1 + 1 + 1) q2 (flat (dn + 1) v) := hq2
    simp only [r13_7, g1, g2, r13_8, go_sem, bne_iff_ne, Int.cast_ofNat_Int, ↓reduceIte, Nat.reduceEqDiff, Nat.reduceAdd, Nat.reduceMul, Nat.reduceLeDiff, Nat.reduceSub, Nat.reduceLT, Int.reduceToNat, Int.reduceLT, Int.reduceLE, reduceCtorEq, Nat.zero_add, Nat.add_zero, and_self, and_true, true_and, ne_eq, not_false_eq_true, not_true_eq_false, decide_true, decide_false, Bool.false_eq_true, Bool.not_true, Bool.not_false, Bool.true_and, Bool.and_true, Bool.or_false, Bool.false_or, Bool.and_self]
    generalize n4 + 1 + 1 + 1 = n5 at hr5 hs5 hq5 ⊢
    refine R_callk ?_
    simp only [go_sem, bne_iff_ne, Int.cast_ofNat_Int, ↓reduceIte, Nat.reduceEqDiff, Nat.reduceAdd, Nat.reduceMul, Nat.reduceLeDiff, Nat.reduceSub, Nat.reduceLT, Int.reduceToNat, Int.reduceLT, Int.reduceLE, reduceCtorEq, Nat.zero_add, Nat.add_zero, and_self, and_true, true_and, ne_eq, not_false_eq_true, not_true_eq_false, decide_true, decide_false, Bool.false_eq_true, Bool.not_true, Bool.not_false, Bool.true_and, Bool.and_true, Bool.or_false, Bool.false_or, Bool.and_self]
    refine (ref42 q2 (flat (dn + 1) v) (frz w2) n5 (Rd.frz hq5) (by omega)).mono ?_
    rintro rr m6 n6 ⟨hn6, _, ho6⟩
    have hmx6 : max n5 n6 = n6 := Nat.max_eq_right hn6
    have hr6 : RP (unfrz w2 n5 m6) n6 r v.pts := RP.keep' hr5 hn6 (fun i hi => by rw [unfrz_at, if_pos (RP.lt hr5 hi)])
    have hs6 : RP (unfrz w2 n5 m6) n6 rs (flat (dn + 1) v) := RP.keep' hs5 hn6 (fun i hi => by rw [unfrz_at, if_pos (RP.lt hs5 hi)])
    have ho6 : RP (unfrz w2 n5 m6) n6 rr (flat (dn + 1) v) := (Sn.unfrz (m := w2) ho6.sn).1
    rw [hmx6]
    generalize unfrz w2 n5 m6 = M6 at hr6 hs6 ho6 ⊢
    refine R_callq ?_
    try simp only [go_sem, bne_iff_ne, Int.cast_ofNat_Int, ↓reduceIte, Nat.reduceEqDiff, Nat.reduceAdd, Nat.reduceMul, Nat.reduceLeDiff, Nat.reduceSub, Nat.reduceLT, Int.reduceToNat, Int.reduceLT, Int.reduceLE, reduceCtorEq, Nat.zero_add, Nat.add_zero, and_self, and_true, true_and, ne_eq, not_false_eq_true, not_true_eq_false, decide_true, decide_false, Bool.false_eq_true, Bool.not_true, Bool.not_false, Bool.true_and, Bool.and_true, Bool.or_false, Bool.false_or, Bool.and_self]
    refine (same40 rs rr (flat (dn + 1) v) (flat (dn + 1) v) _ n6 (Rd.frz hs6) (Rd.frz ho6) (by omega) (by omega) true (by simp)).mono ?_
    rintro _ _ _ rfl
    refine ⟨rfl, ?_⟩
    have i0 : 0 < v.pts.length := by omega
    have hL0 : (0 : Int) < (v.pts.length : Int) := by omega
    have p0 : inP v.pts[0] = true := List.all_eq_true.1 (pts_in hall) _ (List.getElem_mem _)
    obtain ⟨id, off, cap, rfl, hid, q0⟩ := RP.sl hr6 i0
    rw [Nat.zero_mul, Nat.add_zero] at q0
    generalize hp0 : v.pts[0] = p at p0 q0
    have hrp : ∀ B, B = encP [p, p, p] → RP (upd M6 n6 (some ⟨B, true⟩)) (n6 + 1) (.one (.sl n6 0 3 (some 3) 2)) (Cv.quad p p p).pts := fun B hB => by
      subst hB
      exact Or.inr ⟨n6, 0, some 3, rfl, Nat.lt_succ_self _, by simp [Sy.rd, upd_same, Cv.pts, encP]⟩
    have hrB : ∀ B, rd (upd M6 n6 B) id off 2 = some [I p.x, I p.y] := fun B => by
      unfold rd at q0 ⊢
      rw [upd_ne _ _ (by omega)]
      exact q0
    simp only [r13_10, hL0, Int.le_refl, q0, go_sem, bne_iff_ne, Int.cast_ofNat_Int, ↓reduceIte, Nat.reduceEqDiff, Nat.reduceAdd, Nat.reduceMul, Nat.reduceLeDiff, Nat.reduceSub, Nat.reduceLT, Int.reduceToNat, Int.reduceLT, Int.reduceLE, reduceCtorEq, Nat.zero_add, Nat.add_zero, and_self, and_true, true_and, ne_eq, not_false_eq_true, not_true_eq_false, decide_true, decide_false, Bool.false_eq_true, Bool.not_true, Bool.not_false, Bool.true_and, Bool.and_true, Bool.or_false, Bool.false_or, Bool.and_self]
    refine R_callk ?_
    simp only [go_sem, bne_iff_ne, Int.cast_ofNat_Int, ↓reduceIte, Nat.reduceEqDiff, Nat.reduceAdd, Nat.reduceMul, Nat.reduceLeDiff, Nat.reduceSub, Nat.reduceLT, Int.reduceToNat, Int.reduceLT, Int.reduceLE, reduceCtorEq, Nat.zero_add, Nat.add_zero, and_self, and_true, true_and, ne_eq, not_false_eq_true, not_true_eq_false, decide_true, decide_false, Bool.false_eq_true, Bool.not_true, Bool.not_false, Bool.true_and, Bool.and_true, Bool.or_false, Bool.false_or, Bool.and_self]
    refine (Flat38 (.quad p p p) _ (dn + 1) _ (n6 + 1) (Rd.frz (hrp _ rfl)) (by simp [Cv.inP, p0]) hdn).mono ?_
    rintro _ m7 n7 ⟨ro, rfl, hn7, _, ho⟩
    have hmx7 : max (n6 + 1) n7 = n7 := Nat.max_eq_right hn7
    rw [hmx7]
    have ho7 : RP (unfrz (upd M6 n6 (some ⟨[I p.x, I p.y, I p.x, I p.y, I p.x, I p.y], true⟩)) (n6 + 1) m7) n7 ro (flat (dn + 1) (.quad p p p)) := (Sn.unfrz ho.sn).1
    have hr7 : rd (unfrz (upd M6 n6 (some ⟨[I p.x, I p.y, I p.x, I p.y, I p.x, I p.y], true⟩)) (n6 + 1) m7) id off 2 = some [I p.x, I p.y] := by
      have := hrB (some ⟨[I p.x, I p.y, I p.x, I p.y, I p.x, I p.y], true⟩)
      unfold rd at this ⊢
      rw [unfrz_at, if_pos (by omega)]
      exact this
    have hid7 : id < n7 := by omega
    generalize unfrz (upd M6 n6 (some ⟨[I p.x, I p.y, I p.x, I p.y, I p.x, I p.y], true⟩)) (n6 + 1) m7 = M7 at ho7 hr7 ⊢
    have hfo := flat_length (dn + 1) (.quad p p p)
    have hone := flat_one p (dn + 1)
    have hlo := Rd.len ho7
    obtain ⟨ido, offo, capo, rfl, hido, _⟩ := RP.sl ho7 (i := 0) (by omega)
    have key : ∀ (k i : Nat) (e : Nat → Reg) (m : Mem) (n : Nat), i + k = (flat (dn + 1) (.quad p p p)).length → n7 ≤ n → (∀ j, j < n7 → m j = M7 j) → e 0 = .one (.sl id off v.pts.length cap 2) → e 90 = .one (.sl ido offo (flat (dn + 1) (.quad p p p)).length capo 2) → e 91 = RI (flat (dn + 1) (.quad p p p)).length → e 92 = RI i → e 1 = RI ((dn + 1 : Nat) : Int) → e 15 = .one (.sl ido offo (flat (dn + 1) (.quad p p p)).length capo 2) → e 16 = RI 0 →
        X TA L ⟨e, m, n⟩ (fun x s' => x = .x 0 ∧ s'.e 1 = RI ((dn + 1 : Nat) : Int) ∧ s'.e 15 = .one (.sl ido offo (flat (dn + 1) (.quad p p p)).length capo 2) ∧ s'.e 16 = RI 0) := by
      intro k
      induction k with
      | zero =>
        intro i e m n hi hn hM h0 h90 h91 h92 h1 h15 h16
        refine hX _ _ ?_
        have hlt : ¬ ((i : Int) < ((flat (dn + 1) (.quad p p p)).length : Int)) := by omega
        simp only [l13_0, r13_12, h91, h92, hlt, go_sem, bne_iff_ne, Int.cast_ofNat_Int, ↓reduceIte, Nat.reduceEqDiff, Nat.reduceAdd, Nat.reduceMul, Nat.reduceLeDiff, Nat.reduceSub, Nat.reduceLT, Int.reduceToNat, Int.reduceLT, Int.reduceLE, reduceCtorEq, Nat.zero_add, Nat.add_zero, and_self, and_true, true_and, ne_eq, not_false_eq_true, not_true_eq_false, decide_true, decide_false, Bool.false_eq_true, Bool.not_true, Bool.not_false, Bool.true_and, Bool.and_true, Bool.or_false, Bool.false_or, Bool.and_self]
        exact ⟨h1, h15, h16⟩
      | succ k ih =>
        intro i e m n hi hn hM h0 h90 h91 h92 h1 h15 h16
        refine hX _ _ ?_
        have hil : i < (flat (dn + 1) (.quad p p p)).length := by omega
        have hlt : ((i : Int) < ((flat (dn + 1) (.quad p p p)).length : Int)) := by omega
        have h00 : (0 : Int) ≤ (i : Int) := by omega
        obtain ⟨_, _, _, he, _, qo⟩ := RP.sl ho7 hil
        cases he
        rw [hone _ (List.getElem_mem _)] at qo
        have qo' : rd m ido (offo + i * 2) 2 = some [I p.x, I p.y] := by unfold rd at qo ⊢; rw [hM _ hido]; exact qo
        have qi' : rd m id off 2 = some [I p.x, I p.y] := by unfold rd at hr7 ⊢; rw [hM _ hid7]; exact hr7
        have hidn : id < n := by omega
        simp only [l13_0, r13_12, h91, h92, hlt, r13_13, h90, h00, Int.toNat_natCast, qo', r13_14, h0, hL0, Int.le_refl, lt0 hidn, qi', eqCells, beq_self_eq_true, bne_self_eq_false, r13_16, wr_nat (show i < 4294967296 by omega), go_sem, bne_iff_ne, Int.cast_ofNat_Int, ↓reduceIte, Nat.reduceEqDiff, Nat.reduceAdd, Nat.reduceMul, Nat.reduceLeDiff, Nat.reduceSub, Nat.reduceLT, Int.reduceToNat, Int.reduceLT, Int.reduceLE, reduceCtorEq, Nat.zero_add, Nat.add_zero, and_self, and_true, true_and, ne_eq, not_false_eq_true, not_true_eq_false, decide_true, decide_false, Bool.false_eq_true, Bool.not_true, Bool.not_false, Bool.true_and, Bool.and_true, Bool.or_false, Bool.false_or, Bool.and_self]
        refine ih (i + 1) _ _ _ (by omega) (by omega) ?_ ?_ ?_ ?_ ?_ ?_ ?_ ?_
        · intro j hj
          rw [upd_ne _ _ (by omega)]
          exact hM j hj
        · simp only [h0, go_sem, bne_iff_ne, Int.cast_ofNat_Int, ↓reduceIte, Nat.reduceEqDiff, Nat.reduceAdd, Nat.reduceMul, Nat.reduceLeDiff, Nat.reduceSub, Nat.reduceLT, Int.reduceToNat, Int.reduceLT, Int.reduceLE, reduceCtorEq, Nat.zero_add, Nat.add_zero, and_self, and_true, true_and, ne_eq, not_false_eq_true, not_true_eq_false, decide_true, decide_false, Bool.false_eq_true, Bool.not_true, Bool.not_false, Bool.true_and, Bool.and_true, Bool.or_false, Bool.false_or, Bool.and_self]
        · simp only [h90, go_sem, bne_iff_ne, Int.cast_ofNat_Int, ↓reduceIte, Nat.reduceEqDiff, Nat.reduceAdd, Nat.reduceMul, Nat.reduceLeDiff, Nat.reduceSub, Nat.reduceLT, Int.reduceToNat, Int.reduceLT, Int.reduceLE, reduceCtorEq, Nat.zero_add, Nat.add_zero, and_self, and_true, true_and, ne_eq, not_false_eq_true, not_true_eq_false, decide_true, decide_false, Bool.false_eq_true, Bool.not_true, Bool.not_false, Bool.true_and, Bool.and_true, Bool.or_false, Bool.false_or, Bool.and_self]
        · simp only [h91, go_sem, bne_iff_ne, Int.cast_ofNat_Int, ↓reduceIte, Nat.reduceEqDiff, Nat.reduceAdd, Nat.reduceMul, Nat.reduceLeDiff, Nat.reduceSub, Nat.reduceLT, Int.reduceToNat, Int.reduceLT, Int.reduceLE, reduceCtorEq, Nat.zero_add, Nat.add_zero, and_self, and_true, true_and, ne_eq, not_false_eq_true, not_true_eq_false, decide_true, decide_false, Bool.false_eq_true, Bool.not_true, Bool.not_false, Bool.true_and, Bool.and_true, Bool.or_false, Bool.false_or, Bool.and_self]
        · simp only [go_sem, bne_iff_ne, Int.cast_ofNat_Int, ↓reduceIte, Nat.reduceEqDiff, Nat.reduceAdd, Nat.reduceMul, Nat.reduceLeDiff, Nat.reduceSub, Nat.reduceLT, Int.reduceToNat, Int.reduceLT, Int.reduceLE, reduceCtorEq, Nat.zero_add, Nat.add_zero, and_self, and_true, true_and, ne_eq, not_false_eq_true, not_true_eq_false, decide_true, decide_false, Bool.false_eq_true, Bool.not_true, Bool.not_false, Bool.true_and, Bool.and_true, Bool.or_false, Bool.false_or, Bool.and_self]
        · simp only [h1, go_sem, bne_iff_ne, Int.cast_ofNat_Int, ↓reduceIte, Nat.reduceEqDiff, Nat.reduceAdd, Nat.reduceMul, Nat.reduceLeDiff, Nat.reduceSub, Nat.reduceLT, Int.reduceToNat, Int.reduceLT, Int.reduceLE, reduceCtorEq, Nat.zero_add, Nat.add_zero, and_self, and_true, true_and, ne_eq, not_false_eq_true, not_true_eq_false, decide_true, decide_false, Bool.false_eq_true, Bool.not_true, Bool.not_false, Bool.true_and, Bool.and_true, Bool.or_false, Bool.false_or, Bool.and_self]
        · simp only [h15, go_sem, bne_iff_ne, Int.cast_ofNat_Int, ↓reduceIte, Nat.reduceEqDiff, Nat.reduceAdd, Nat.reduceMul, Nat.reduceLeDiff, Nat.reduceSub, Nat.reduceLT, Int.reduceToNat, Int.reduceLT, Int.reduceLE, reduceCtorEq, Nat.zero_add, Nat.add_zero, and_self, and_true, true_and, ne_eq, not_false_eq_true, not_true_eq_false, decide_true, decide_false, Bool.false_eq_true, Bool.not_true, Bool.not_false, Bool.true_and, Bool.and_true, Bool.or_false, Bool.false_or, Bool.and_self]
        · simp only [h16, go_sem, bne_iff_ne, Int.cast_ofNat_Int, ↓reduceIte, Nat.reduceEqDiff, Nat.reduceAdd, Nat.reduceMul, Nat.reduceLeDiff, Nat.reduceSub, Nat.reduceLT, Int.reduceToNat, Int.reduceLT, Int.reduceLE, reduceCtorEq, Nat.zero_add, Nat.add_zero, and_self, and_true, true_and, ne_eq, not_false_eq_true, not_true_eq_false, decide_true, decide_false, Bool.false_eq_true, Bool.not_true, Bool.not_false, Bool.true_and, Bool.and_true, Bool.or_false, Bool.false_or, Bool.and_self]
    simp only [r13_11, hlo, ← hL, go_sem, bne_iff_ne, Int.cast_ofNat_Int, ↓reduceIte, Nat.reduceEqDiff, Nat.reduceAdd, Nat.reduceMul, Nat.reduceLeDiff, Nat.reduceSub, Nat.reduceLT, Int.reduceToNat, Int.reduceLT, Int.reduceLE, reduceCtorEq, Nat.zero_add, Nat.add_zero, and_self, and_true, true_and, ne_eq, not_false_eq_true, not_true_eq_false, decide_true, decide_false, Bool.false_eq_true, Bool.not_true, Bool.not_false, Bool.true_and, Bool.and_true, Bool.or_false, Bool.false_or, Bool.and_self]
    refine (key _ 0 _ _ _ (Nat.zero_add _) (Nat.le_refl _) (fun _ _ => rfl) ?_ ?_ ?_ ?_ ?_ ?_ ?_).mono ?_
    · simp only [go_sem, bne_iff_ne, Int.cast_ofNat_Int, ↓reduceIte, Nat.reduceEqDiff, Nat.reduceAdd, Nat.reduceMul, Nat.reduceLeDiff, Nat.reduceSub, Nat.reduceLT, Int.reduceToNat, Int.reduceLT, Int.reduceLE, reduceCtorEq, Nat.zero_add, Nat.add_zero, and_self, and_true, true_and, ne_eq, not_false_eq_true, not_true_eq_false, decide_true, decide_false, Bool.false_eq_true, Bool.not_true, Bool.not_false, Bool.true_and, Bool.and_true, Bool.or_false, Bool.false_or, Bool.and_self]
    · simp only [go_sem, bne_iff_ne, Int.cast_ofNat_Int, ↓reduceIte, Nat.reduceEqDiff, Nat.reduceAdd, Nat.reduceMul, Nat.reduceLeDiff, Nat.reduceSub, Nat.reduceLT, Int.reduceToNat, Int.reduceLT, Int.reduceLE, reduceCtorEq, Nat.zero_add, Nat.add_zero, and_self, and_true, true_and, ne_eq, not_false_eq_true, not_true_eq_false, decide_true, decide_false, Bool.false_eq_true, Bool.not_true, Bool.not_false, Bool.true_and, Bool.and_true, Bool.or_false, Bool.false_or, Bool.and_self]
    · simp only [go_sem, bne_iff_ne, Int.cast_ofNat_Int, ↓reduceIte, Nat.reduceEqDiff, Nat.reduceAdd, Nat.reduceMul, Nat.reduceLeDiff, Nat.reduceSub, Nat.reduceLT, Int.reduceToNat, Int.reduceLT, Int.reduceLE, reduceCtorEq, Nat.zero_add, Nat.add_zero, and_self, and_true, true_and, ne_eq, not_false_eq_true, not_true_eq_false, decide_true, decide_false, Bool.false_eq_true, Bool.not_true, Bool.not_false, Bool.true_and, Bool.and_true, Bool.or_false, Bool.false_or, Bool.and_self]
    · simp only [go_sem, bne_iff_ne, Int.cast_ofNat_Int, ↓reduceIte, Nat.reduceEqDiff, Nat.reduceAdd, Nat.reduceMul, Nat.reduceLeDiff, Nat.reduceSub, Nat.reduceLT, Int.reduceToNat, Int.reduceLT, Int.reduceLE, reduceCtorEq, Nat.zero_add, Nat.add_zero, and_self, and_true, true_and, ne_eq, not_false_eq_true, not_true_eq_false, decide_true, decide_false, Bool.false_eq_true, Bool.not_true, Bool.not_false, Bool.true_and, Bool.and_true, Bool.or_false, Bool.false_or, Bool.and_self]
    · simp only [go_sem, bne_iff_ne, Int.cast_ofNat_Int, ↓reduceIte, Nat.reduceEqDiff, Nat.reduceAdd, Nat.reduceMul, Nat.reduceLeDiff, Nat.reduceSub, Nat.reduceLT, Int.reduceToNat, Int.reduceLT, Int.reduceLE, reduceCtorEq, Nat.zero_add, Nat.add_zero, and_self, and_true, true_and, ne_eq, not_false_eq_true, not_true_eq_false, decide_true, decide_false, Bool.false_eq_true, Bool.not_true, Bool.not_false, Bool.true_and, Bool.and_true, Bool.or_false, Bool.false_or, Bool.and_self]
    · simp only [go_sem, bne_iff_ne, Int.cast_ofNat_Int, ↓reduceIte, Nat.reduceEqDiff, Nat.reduceAdd, Nat.reduceMul, Nat.reduceLeDiff, Nat.reduceSub, Nat.reduceLT, Int.reduceToNat, Int.reduceLT, Int.reduceLE, reduceCtorEq, Nat.zero_add, Nat.add_zero, and_self, and_true, true_and, ne_eq, not_false_eq_true, not_true_eq_false, decide_true, decide_false, Bool.false_eq_true, Bool.not_true, Bool.not_false, Bool.true_and, Bool.and_true, Bool.or_false, Bool.false_or, Bool.and_self]
    · simp only [go_sem, bne_iff_ne, Int.cast_ofNat_Int, ↓reduceIte, Nat.reduceEqDiff, Nat.reduceAdd, Nat.reduceMul, Nat.reduceLeDiff, Nat.reduceSub, Nat.reduceLT, Int.reduceToNat, Int.reduceLT, Int.reduceLE, reduceCtorEq, Nat.zero_add, Nat.add_zero, and_self, and_true, true_and, ne_eq, not_false_eq_true, not_true_eq_false, decide_true, decide_false, Bool.false_eq_true, Bool.not_true, Bool.not_false, Bool.true_and, Bool.and_true, Bool.or_false, Bool.false_or, Bool.and_self]
    · rintro x s' ⟨rfl, h1, h15, h16⟩
      simp only [r13_17, h1, h15, h16, hlo, bin_shl_small (dn + 1) hdn, hfo, go_sem, bne_iff_ne, Int.cast_ofNat_Int, ↓reduceIte, Nat.reduceEqDiff, Nat.reduceAdd, Nat.reduceMul, Nat.reduceLeDiff, Nat.reduceSub, Nat.reduceLT, Int.reduceToNat, Int.reduceLT, Int.reduceLE, reduceCtorEq, Nat.zero_add, Nat.add_zero, and_self, and_true, true_and, ne_eq, not_false_eq_true, not_true_eq_false, decide_true, decide_false, Bool.false_eq_true, Bool.not_true, Bool.not_false, Bool.true_and, Bool.and_true, Bool.or_false, Bool.false_or, Bool.and_self]
      refine R_callz (by first | (simp only [flats, Reg.flat, Cell.flat, List.all_cons, List.all_nil, Bool.and_self, go_sem, bne_iff_ne, Int.cast_ofNat_Int, ↓reduceIte, Nat.reduceEqDiff, Nat.reduceAdd, Nat.reduceMul, Nat.reduceLeDiff, Nat.reduceSub, Nat.reduceLT, Int.reduceToNat, Int.reduceLT, Int.reduceLE, reduceCtorEq, Nat.zero_add, Nat.add_zero, and_self, and_true, true_and, ne_eq, not_false_eq_true, not_true_eq_false, decide_true, decide_false, Bool.false_eq_true, Bool.not_true, Bool.not_false, Bool.true_and, Bool.and_true, Bool.or_false, Bool.false_or, Bool.and_self]; done) | rfl) ?_
      try simp only [go_sem, bne_iff_ne, Int.cast_ofNat_Int, ↓reduceIte, Nat.reduceEqDiff, Nat.reduceAdd, Nat.reduceMul, Nat.reduceLeDiff, Nat.reduceSub, Nat.reduceLT, Int.reduceToNat, Int.reduceLT, Int.reduceLE, reduceCtorEq, Nat.zero_add, Nat.add_zero, and_self, and_true, true_and, ne_eq, not_false_eq_true, not_true_eq_false, decide_true, decide_false, Bool.false_eq_true, Bool.not_true, Bool.not_false, Bool.true_and, Bool.and_true, Bool.or_false, Bool.false_or, Bool.and_self]
      refine Fn.mono (awake37) ?_
      rintro _ _ _ rfl
      refine ⟨rfl, ?_⟩
      try simp only [go_sem, bne_iff_ne, Int.cast_ofNat_Int, ↓reduceIte, Nat.reduceEqDiff, Nat.reduceAdd, Nat.reduceMul, Nat.reduceLeDiff, Nat.reduceSub, Nat.reduceLT, Int.reduceToNat, Int.reduceLT, Int.reduceLE, reduceCtorEq, Nat.zero_add, Nat.add_zero, and_self, and_true, true_and, ne_eq, not_false_eq_true, not_true_eq_false, decide_true, decide_false, Bool.false_eq_true, Bool.not_true, Bool.not_false, Bool.true_and, Bool.and_true, Bool.or_false, Bool.false_or, Bool.and_self]

/-- A slice of points that is handed in, and its length. -/
theorem openPtsL {W : World} {v : Value} (h : v = .slice none 0 0 ∨ ∃ b o len cap vs, v = .slice (some ⟨b, o, none⟩) len cap ∧ b < W.heap.size ∧ len ≤ cap ∧ cap ≤ maxLen ∧ RowsOk [.int .i64, .int .i64] cap vs ∧ ∀ (i : Nat) (x : Value), vs[i]? = some x → W.cell? ⟨b, o + i, none⟩ = some x) :
    ∃ (ρ : Loc) (n : Nat) (m : Mem) (r : Reg) (l : List Pt), MRel ρ n W m ∧ Held m ∧ RRel ρ n W r v ∧ RP m n r l ∧ l.length ≤ 9223372036854775807 := by
  have hlen : ∀ len cap a, v = .slice (some a) len cap → len ≤ 9223372036854775807 := by
    rintro len cap a rfl
    rcases h with h | ⟨b, o, len', cap', vs, he, _, h1, h2, _⟩
    · cases h
    · cases he
      exact Nat.le_trans h1 h2
  obtain ⟨ρ, n, m, r, l, h1, h2, h3, h4⟩ := openPts h
  refine ⟨ρ, n, m, r, l, h1, h2, h3, h4, ?_⟩
  rcases h4 with ⟨_, hz, _⟩ | ⟨id, off, cap, rfl, _, _⟩
  · omega
  · obtain ⟨_, o, cp, he, _⟩ := h3
    exact hlen _ _ _ he
theorem row_ptsL {f : Nat} (hlaw : ∀ (l : List Pt) (d : Int) (r : Reg) (m : Mem) (n : Nat), l.length ≤ 9223372036854775807 → RP m n r l → Fn TA f [r, RI d] m n (fun r' _ _ => r' = RB true)) (hmix : Try.prog.follows .mixedOrders = true) (W : World) (v : Value)
    (h : v = .slice none 0 0 ∨ ∃ b o len cap vs, v = .slice (some ⟨b, o, none⟩) len cap ∧ b < W.heap.size ∧ len ≤ cap ∧ cap ≤ maxLen ∧ RowsOk [.int .i64, .int .i64] cap vs ∧ ∀ (i : Nat) (x : Value), vs[i]? = some x → W.cell? ⟨b, o + i, none⟩ = some x) (d : Int) (hd : IntKind.i64.min ≤ d ∧ d ≤ IntKind.i64.max) :
    Calls Try.prog f #[v, .int .i64 d] W (fun e w' => e = .returned (.bool true) ∧ Go.RowKit.Below W.heap.size W w') := by
  obtain ⟨ρ, n, m, r, l, hm, hh, hrel, hrp, hl⟩ := openPtsL h
  exact law_calls (ng := 0) hmix TA_ok (hlaw l d r m n hl hrp) hm (fun _ h => by omega) ⟨_, _, rfl, hrel, _, _, rfl, ⟨rfl, rfl⟩, rfl⟩ hh

theorem rowL13 (hmix : Try.prog.follows .mixedOrders = true) (W : World) (v : Value)
    (h : v = .slice none 0 0 ∨ ∃ b o len cap vs, v = .slice (some ⟨b, o, none⟩) len cap ∧ b < W.heap.size ∧ len ≤ cap ∧ cap ≤ maxLen ∧ RowsOk [.int .i64, .int .i64] cap vs ∧ ∀ (i : Nat) (x : Value), vs[i]? = some x → W.cell? ⟨b, o + i, none⟩ = some x) (d : Int) (hd : IntKind.i64.min ≤ d ∧ d ≤ IntKind.i64.max) :
    Calls Try.prog 13 #[v, .int .i64 d] W (fun e w' => e = .returned (.bool true) ∧ Go.RowKit.Below W.heap.size W w') :=
  row_ptsL (fun l d r m n hl h => law13 l d r m n hl h) hmix W v h d hd
end Go.Proofs.Ytkneefkhggacmaa.Sy
