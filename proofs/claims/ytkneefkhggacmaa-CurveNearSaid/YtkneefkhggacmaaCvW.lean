/- Curves: the law CurveNear. Conditions: those that each theorem names. -/
import Derived.Test.YtkneefkhggacmaaCvV
namespace Go.Proofs.Ytkneefkhggacmaa.Sy
open Go Go.Proofs
set_option linter.unusedSimpArgs false
set_option linter.unusedVariables false
attribute [local go_sem] R_nil R_mv R_pick R_alloc R_box R_build R_bslice R_load1 R_loadA R_store R_nilchk R_bin R_beq R_eqv R_eqnil R_un R_conv R_mkfn R_mkslice R_slS R_slA R_fadr R_fld R_iadrA R_iadrS R_idxA R_ext R_len R_lenC R_cap R_app R_cpy R_mn R_mx
  evalOp evO evOs upd_upd upd_at unfrz_at putE_some putE_none Then_some X_seq X_reg X_dreg X_ret X_skip X_exit X_block X_condK condK_bool Next_n Next_x Next_r Out_n Out_x Out_r Ret_n Ret_r
  bin_shr1 bin_add bin_sub bin_mul bin_lss bin_leq bin_gtr bin_geq bin_eql bin_neq un_not un_neg boolOf_b boolOf_tup R_guard Option.map_some evRes pack_one pack_two pack_three pack_none List.getD_cons_zero List.getD_cons_succ getD_nil
  Option.some.injEq exists_eq_left' Reg.cs? fillC setL List.set_cons_zero List.set_cons_succ List.length_cons List.length_nil rd_upd rdB wr List.drop_zero List.drop_succ_cons List.take_succ_cons List.take_zero List.getElem?_cons_zero List.getElem?_cons_succ
  ix Int.toNat_zero lenO_sl lenO_nil sn1 ns1 sn2 ns2 sn3 ns3 sn4 ns4 sn5 ns5 sn6 ns6 sn7 ns7 sn8 ns8 sn9 ns9 sn10 ns10 sn11 ns11 sn12 ns12 sk1_2 sk1_3 sk1_4 sk1_5 sk1_6 sk1_7 sk1_8 sk2_1 sk2_3 sk2_4 sk2_5 sk2_6 sk2_7 sk2_8 sk3_1 sk3_2 sk3_4 sk3_5 sk3_6 sk3_7 sk3_8 sk4_1 sk4_2 sk4_3 sk4_5 sk4_6 sk4_7 sk4_8 sk5_1 sk5_2 sk5_3 sk5_4 sk5_6 sk5_7 sk5_8 sk6_1 sk6_2 sk6_3 sk6_4 sk6_5 sk6_7 sk6_8 sk7_1 sk7_2 sk7_3 sk7_4 sk7_5 sk7_6 sk7_8 sk8_1 sk8_2 sk8_3 sk8_4 sk8_5 sk8_6 sk8_7

theorem flat_in : ∀ (d : Nat) (v : Cv), v.inP = true → ∀ P ∈ flat d v, inP P = true
  | 0, v, h, P, hP => by
    have hP : P = v.last := by simpa [flat] using hP
    subst hP
    cases v <;> simp_all [Cv.inP, Cv.last]
  | d + 1, v, h, P, hP => by
    rw [flat, List.mem_append] at hP
    rcases hP with hP | hP
    · exact flat_in d _ (Cv.inP_fst h) P hP
    · exact flat_in d _ (Cv.inP_snd h) P hP

theorem shl_scl (v : Cv) (d : Nat) (h : d ≤ 6) : binV .shl (.int .i64 1) (.int .i64 ((d * (v.pts.length - 1) : Nat) : Int)) = some (.int .i64 (scl ((2 : Int) ^ d) v)) ∧ 1 ≤ scl ((2 : Int) ^ d) v ∧ scl ((2 : Int) ^ d) v ≤ 262144 := by
  have h1 : (2 : Nat) ^ d ≤ 64 := by
    have : (2 : Nat) ^ d ≤ 2 ^ 6 := Nat.pow_le_pow_right (by omega) h
    omega
  have h0 : 0 < (2 : Nat) ^ d := Nat.two_pow_pos d
  have hD : ((2 ^ d : Nat) : Int) = (2 : Int) ^ d := by norm_cast
  obtain ⟨D, hDD⟩ : ∃ D : Nat, D = 2 ^ d := ⟨_, rfl⟩
  have hp : ∀ k : Nat, (2 : Int) ^ (d * k) = ((D ^ k : Nat) : Int) := fun k => by rw [hDD, ← Nat.pow_mul]; norm_cast
  rw [← hD, ← hDD]
  rw [← hDD] at h0 h1
  have hs : scl (D : Int) v = ((D ^ (v.pts.length - 1) : Nat) : Int) := by
    cases v
    · simp only [scl, Cv.pts, List.length_cons, List.length_nil]
      show (D : Int) * D = ((D ^ 2 : Nat) : Int)
      rw [Nat.pow_two]; norm_cast
    · simp only [scl, Cv.pts, List.length_cons, List.length_nil]
      show (D : Int) * D * D = ((D ^ 3 : Nat) : Int)
      rw [Nat.pow_succ, Nat.pow_two]; norm_cast
  have hle : D ^ (v.pts.length - 1) ≤ 262144 := by
    have h2 : D ^ (v.pts.length - 1) ≤ 64 ^ (v.pts.length - 1) := Nat.pow_le_pow_left h1 _
    have h3 : (64 : Nat) ^ (v.pts.length - 1) ≤ 262144 := by
      rcases pts_len v with h | h <;> rw [h] <;> decide
    omega
  have hge : 0 < D ^ (v.pts.length - 1) := Nat.pow_pos h0
  have hb : d * (v.pts.length - 1) ≤ 18 := by
    have : v.pts.length - 1 ≤ 3 := by rcases pts_len v with h | h <;> omega
    exact Nat.le_trans (Nat.mul_le_mul h this) (by decide)
  rw [hs]
  refine ⟨?_, by omega, by omega⟩
  rw [bin_shl (by omega) (by omega), Int.toNat_natCast, hp, Int.one_mul, wr_eq (by omega) (by omega)]

theorem law10 (l : List Pt) (d : Int) (r : Reg) (m : Mem) (n : Nat) (hl : l.length ≤ 9223372036854775807) (hr : RP m n r l) : Fn TA 10 [r, RI d] m n (fun r' _ _ => r' = RB true) := by
  refine Fn_of (fn := F10) rfl (by simp [F10]) ?_
  obtain ⟨L, hL⟩ : ∃ L_, L_ = SC.loop l10_0 := ⟨_, rfl⟩
  have hX : ∀ s Q, X TA l10_0 s (Next Q (fun s_ => X TA L s_ Q)) → X TA L s Q := by subst hL; exact fun _ _ h => X_loop h
  simp only [F10, c10, r10_0, r10_1, go_sem, bne_iff_ne, Int.cast_ofNat_Int, ↓reduceIte, Nat.reduceEqDiff, Nat.reduceAdd, Nat.reduceMul, Nat.reduceLeDiff, Nat.reduceSub, Nat.reduceLT, Int.reduceToNat, Int.reduceLT, Int.reduceLE, reduceCtorEq, Nat.zero_add, Nat.add_zero, and_self, and_true, true_and, ne_eq, not_false_eq_true, not_true_eq_false, decide_true, decide_false, Bool.false_eq_true, Bool.not_true, Bool.not_false, Bool.true_and, Bool.and_true, Bool.or_false, Bool.false_or, Bool.and_self]
  refine R_callq ?_
  simp only [go_sem, bne_iff_ne, Int.cast_ofNat_Int, ↓reduceIte, Nat.reduceEqDiff, Nat.reduceAdd, Nat.reduceMul, Nat.reduceLeDiff, Nat.reduceSub, Nat.reduceLT, Int.reduceToNat, Int.reduceLT, Int.reduceLE, reduceCtorEq, Nat.zero_add, Nat.add_zero, and_self, and_true, true_and, ne_eq, not_false_eq_true, not_true_eq_false, decide_true, decide_false, Bool.false_eq_true, Bool.not_true, Bool.not_false, Bool.true_and, Bool.and_true, Bool.or_false, Bool.false_or, Bool.and_self]
  refine (right39 r l _ n (Rd.frz hr) hl).mono ?_
  rintro _ _ _ rfl
  refine ⟨rfl, ?_⟩
  by_cases hno : ¬ (l.all inP = true ∧ (l.length = 3 ∨ l.length = 4)) ∨ d < 0 ∨ 6 < d
  · rcases hc : (l.all inP && (decide (l.length = 3) || decide (l.length = 4))) with _ | _
    · simp only [r10_2, go_sem, bne_iff_ne, Int.cast_ofNat_Int, ↓reduceIte, Nat.reduceEqDiff, Nat.reduceAdd, Nat.reduceMul, Nat.reduceLeDiff, Nat.reduceSub, Nat.reduceLT, Int.reduceToNat, Int.reduceLT, Int.reduceLE, reduceCtorEq, Nat.zero_add, Nat.add_zero, and_self, and_true, true_and, ne_eq, not_false_eq_true, not_true_eq_false, decide_true, decide_false, Bool.false_eq_true, Bool.not_true, Bool.not_false, Bool.true_and, Bool.and_true, Bool.or_false, Bool.false_or, Bool.and_self]
      refine R_callz (by first | (simp only [flats, Reg.flat, Cell.flat, List.all_cons, List.all_nil, Bool.and_self, go_sem, bne_iff_ne, Int.cast_ofNat_Int, ↓reduceIte, Nat.reduceEqDiff, Nat.reduceAdd, Nat.reduceMul, Nat.reduceLeDiff, Nat.reduceSub, Nat.reduceLT, Int.reduceToNat, Int.reduceLT, Int.reduceLE, reduceCtorEq, Nat.zero_add, Nat.add_zero, and_self, and_true, true_and, ne_eq, not_false_eq_true, not_true_eq_false, decide_true, decide_false, Bool.false_eq_true, Bool.not_true, Bool.not_false, Bool.true_and, Bool.and_true, Bool.or_false, Bool.false_or, Bool.and_self]; done) | rfl) ?_
      try simp only [go_sem, bne_iff_ne, Int.cast_ofNat_Int, ↓reduceIte, Nat.reduceEqDiff, Nat.reduceAdd, Nat.reduceMul, Nat.reduceLeDiff, Nat.reduceSub, Nat.reduceLT, Int.reduceToNat, Int.reduceLT, Int.reduceLE, reduceCtorEq, Nat.zero_add, Nat.add_zero, and_self, and_true, true_and, ne_eq, not_false_eq_true, not_true_eq_false, decide_true, decide_false, Bool.false_eq_true, Bool.not_true, Bool.not_false, Bool.true_and, Bool.and_true, Bool.or_false, Bool.false_or, Bool.and_self]
      refine Fn.mono (awake37) ?_
      rintro _ _ _ rfl
      refine ⟨rfl, ?_⟩
      try simp only [go_sem, bne_iff_ne, Int.cast_ofNat_Int, ↓reduceIte, Nat.reduceEqDiff, Nat.reduceAdd, Nat.reduceMul, Nat.reduceLeDiff, Nat.reduceSub, Nat.reduceLT, Int.reduceToNat, Int.reduceLT, Int.reduceLE, reduceCtorEq, Nat.zero_add, Nat.add_zero, and_self, and_true, true_and, ne_eq, not_false_eq_true, not_true_eq_false, decide_true, decide_false, Bool.false_eq_true, Bool.not_true, Bool.not_false, Bool.true_and, Bool.and_true, Bool.or_false, Bool.false_or, Bool.and_self]
    · have hc' : l.all inP = true ∧ (l.length = 3 ∨ l.length = 4) := by simpa using hc
      rcases hno with h | h | h
      · exact absurd hc' h
      · simp only [h, r10_2, go_sem, bne_iff_ne, Int.cast_ofNat_Int, ↓reduceIte, Nat.reduceEqDiff, Nat.reduceAdd, Nat.reduceMul, Nat.reduceLeDiff, Nat.reduceSub, Nat.reduceLT, Int.reduceToNat, Int.reduceLT, Int.reduceLE, reduceCtorEq, Nat.zero_add, Nat.add_zero, and_self, and_true, true_and, ne_eq, not_false_eq_true, not_true_eq_false, decide_true, decide_false, Bool.false_eq_true, Bool.not_true, Bool.not_false, Bool.true_and, Bool.and_true, Bool.or_false, Bool.false_or, Bool.and_self]
        refine R_callz (by first | (simp only [flats, Reg.flat, Cell.flat, List.all_cons, List.all_nil, Bool.and_self, go_sem, bne_iff_ne, Int.cast_ofNat_Int, ↓reduceIte, Nat.reduceEqDiff, Nat.reduceAdd, Nat.reduceMul, Nat.reduceLeDiff, Nat.reduceSub, Nat.reduceLT, Int.reduceToNat, Int.reduceLT, Int.reduceLE, reduceCtorEq, Nat.zero_add, Nat.add_zero, and_self, and_true, true_and, ne_eq, not_false_eq_true, not_true_eq_false, decide_true, decide_false, Bool.false_eq_true, Bool.not_true, Bool.not_false, Bool.true_and, Bool.and_true, Bool.or_false, Bool.false_or, Bool.and_self]; done) | rfl) ?_
        try simp only [go_sem, bne_iff_ne, Int.cast_ofNat_Int, ↓reduceIte, Nat.reduceEqDiff, Nat.reduceAdd, Nat.reduceMul, Nat.reduceLeDiff, Nat.reduceSub, Nat.reduceLT, Int.reduceToNat, Int.reduceLT, Int.reduceLE, reduceCtorEq, Nat.zero_add, Nat.add_zero, and_self, and_true, true_and, ne_eq, not_false_eq_true, not_true_eq_false, decide_true, decide_false, Bool.false_eq_true, Bool.not_true, Bool.not_false, Bool.true_and, Bool.and_true, Bool.or_false, Bool.false_or, Bool.and_self]
        refine Fn.mono (awake37) ?_
        rintro _ _ _ rfl
        refine ⟨rfl, ?_⟩
        try simp only [go_sem, bne_iff_ne, Int.cast_ofNat_Int, ↓reduceIte, Nat.reduceEqDiff, Nat.reduceAdd, Nat.reduceMul, Nat.reduceLeDiff, Nat.reduceSub, Nat.reduceLT, Int.reduceToNat, Int.reduceLT, Int.reduceLE, reduceCtorEq, Nat.zero_add, Nat.add_zero, and_self, and_true, true_and, ne_eq, not_false_eq_true, not_true_eq_false, decide_true, decide_false, Bool.false_eq_true, Bool.not_true, Bool.not_false, Bool.true_and, Bool.and_true, Bool.or_false, Bool.false_or, Bool.and_self]
      · by_cases h0 : d < 0
        · simp only [h0, r10_2, go_sem, bne_iff_ne, Int.cast_ofNat_Int, ↓reduceIte, Nat.reduceEqDiff, Nat.reduceAdd, Nat.reduceMul, Nat.reduceLeDiff, Nat.reduceSub, Nat.reduceLT, Int.reduceToNat, Int.reduceLT, Int.reduceLE, reduceCtorEq, Nat.zero_add, Nat.add_zero, and_self, and_true, true_and, ne_eq, not_false_eq_true, not_true_eq_false, decide_true, decide_false, Bool.false_eq_true, Bool.not_true, Bool.not_false, Bool.true_and, Bool.and_true, Bool.or_false, Bool.false_or, Bool.and_self]
          refine R_callz (by first | (simp only [flats, Reg.flat, Cell.flat, List.all_cons, List.all_nil, Bool.and_self, go_sem, bne_iff_ne, Int.cast_ofNat_Int, ↓reduceIte, Nat.reduceEqDiff, Nat.reduceAdd, Nat.reduceMul, Nat.reduceLeDiff, Nat.reduceSub, Nat.reduceLT, Int.reduceToNat, Int.reduceLT, Int.reduceLE, reduceCtorEq, Nat.zero_add, Nat.add_zero, and_self, and_true, true_and, ne_eq, not_false_eq_true, not_true_eq_false, decide_true, decide_false, Bool.false_eq_true, Bool.not_true, Bool.not_false, Bool.true_and, Bool.and_true, Bool.or_false, Bool.false_or, Bool.and_self]; done) | rfl) ?_
          try simp only [go_sem, bne_iff_ne, Int.cast_ofNat_Int, ↓reduceIte, Nat.reduceEqDiff, Nat.reduceAdd, Nat.reduceMul, Nat.reduceLeDiff, Nat.reduceSub, Nat.reduceLT, Int.reduceToNat, Int.reduceLT, Int.reduceLE, reduceCtorEq, Nat.zero_add, Nat.add_zero, and_self, and_true, true_and, ne_eq, not_false_eq_true, not_true_eq_false, decide_true, decide_false, Bool.false_eq_true, Bool.not_true, Bool.not_false, Bool.true_and, Bool.and_true, Bool.or_false, Bool.false_or, Bool.and_self]
          refine Fn.mono (awake37) ?_
          rintro _ _ _ rfl
          refine ⟨rfl, ?_⟩
          try simp only [go_sem, bne_iff_ne, Int.cast_ofNat_Int, ↓reduceIte, Nat.reduceEqDiff, Nat.reduceAdd, Nat.reduceMul, Nat.reduceLeDiff, Nat.reduceSub, Nat.reduceLT, Int.reduceToNat, Int.reduceLT, Int.reduceLE, reduceCtorEq, Nat.zero_add, Nat.add_zero, and_self, and_true, true_and, ne_eq, not_false_eq_true, not_true_eq_false, decide_true, decide_false, Bool.false_eq_true, Bool.not_true, Bool.not_false, Bool.true_and, Bool.and_true, Bool.or_false, Bool.false_or, Bool.and_self]
        · simp only [h0, h, r10_2, go_sem, bne_iff_ne, Int.cast_ofNat_Int, ↓reduceIte, Nat.reduceEqDiff, Nat.reduceAdd, Nat.reduceMul, Nat.reduceLeDiff, Nat.reduceSub, Nat.reduceLT, Int.reduceToNat, Int.reduceLT, Int.reduceLE, reduceCtorEq, Nat.zero_add, Nat.add_zero, and_self, and_true, true_and, ne_eq, not_false_eq_true, not_true_eq_false, decide_true, decide_false, Bool.false_eq_true, Bool.not_true, Bool.not_false, Bool.true_and, Bool.and_true, Bool.or_false, Bool.false_or, Bool.and_self]
          refine R_callz (by first | (simp only [flats, Reg.flat, Cell.flat, List.all_cons, List.all_nil, Bool.and_self, go_sem, bne_iff_ne, Int.cast_ofNat_Int, ↓reduceIte, Nat.reduceEqDiff, Nat.reduceAdd, Nat.reduceMul, Nat.reduceLeDiff, Nat.reduceSub, Nat.reduceLT, Int.reduceToNat, Int.reduceLT, Int.reduceLE, reduceCtorEq, Nat.zero_add, Nat.add_zero, and_self, and_true, true_and, ne_eq, not_false_eq_true, not_true_eq_false, decide_true, decide_false, Bool.false_eq_true, Bool.not_true, Bool.not_false, Bool.true_and, Bool.and_true, Bool.or_false, Bool.false_or, Bool.and_self]; done) | rfl) ?_
          try simp only [go_sem, bne_iff_ne, Int.cast_ofNat_Int, ↓reduceIte, Nat.reduceEqDiff, Nat.reduceAdd, Nat.reduceMul, Nat.reduceLeDiff, Nat.reduceSub, Nat.reduceLT, Int.reduceToNat, Int.reduceLT, Int.reduceLE, reduceCtorEq, Nat.zero_add, Nat.add_zero, and_self, and_true, true_and, ne_eq, not_false_eq_true, not_true_eq_false, decide_true, decide_false, Bool.false_eq_true, Bool.not_true, Bool.not_false, Bool.true_and, Bool.and_true, Bool.or_false, Bool.false_or, Bool.and_self]
          refine Fn.mono (awake37) ?_
          rintro _ _ _ rfl
          refine ⟨rfl, ?_⟩
          try simp only [go_sem, bne_iff_ne, Int.cast_ofNat_Int, ↓reduceIte, Nat.reduceEqDiff, Nat.reduceAdd, Nat.reduceMul, Nat.reduceLeDiff, Nat.reduceSub, Nat.reduceLT, Int.reduceToNat, Int.reduceLT, Int.reduceLE, reduceCtorEq, Nat.zero_add, Nat.add_zero, and_self, and_true, true_and, ne_eq, not_false_eq_true, not_true_eq_false, decide_true, decide_false, Bool.false_eq_true, Bool.not_true, Bool.not_false, Bool.true_and, Bool.and_true, Bool.or_false, Bool.false_or, Bool.and_self]
  · have hyes : (l.all inP = true ∧ (l.length = 3 ∨ l.length = 4)) ∧ 0 ≤ d ∧ d ≤ 6 := by
      refine ⟨Classical.byContradiction fun h => hno (Or.inl h), ?_, ?_⟩
      · have : ¬ d < 0 := fun h => hno (Or.inr (Or.inl h)); omega
      · have : ¬ 6 < d := fun h => hno (Or.inr (Or.inr h)); omega
    obtain ⟨⟨hall, h34⟩, hd0, hd6⟩ := hyes
    obtain ⟨v, hv⟩ := toCv_some h34
    obtain ⟨hp, hin, _⟩ := toCv_pts hv
    subst hp
    have hc : (v.pts.all inP && (decide (v.pts.length = 3) || decide (v.pts.length = 4))) = true := by
      rw [hall]; simpa using h34
    rw [hc]
    rw [hin] at hall
    obtain ⟨dn, rfl⟩ := Int.eq_ofNat_of_zero_le hd0
    have hdn : dn ≤ 6 := by omega
    have hnd0 : ¬ ((dn : Int) < 0) := by omega
    have hnd6 : ¬ ((6 : Int) < (dn : Int)) := by omega
    have hfl := flat_length dn v
    have hpw : (2 : Nat) ^ dn ≤ 64 := by
      have : (2 : Nat) ^ dn ≤ 2 ^ 6 := Nat.pow_le_pow_right (by omega) (by omega)
      omega
    have hpos : 0 < (2 : Nat) ^ dn := Nat.two_pow_pos dn
    obtain ⟨hE1, hE2, hE3⟩ := shl_scl v dn hdn
    have hnx := near Pt.x (fun _ _ => rfl) dn v
    have hny := near Pt.y (fun _ _ => rfl) dn v
    have hD : ((2 ^ dn : Nat) : Int) = (2 : Int) ^ dn := by norm_cast
    generalize scl ((2 : Int) ^ dn) v = E at hE1 hE2 hE3 hnx hny
    rw [← hD] at hnx hny
    have hw1 : IntKind.i64.wrap ((v.pts.length : Int) - 1) = ((v.pts.length - 1 : Nat) : Int) := by rw [wr_eq (by omega) (by omega)]; omega
    have hw2 : IntKind.i64.wrap ((dn : Int) * ((v.pts.length - 1 : Nat) : Int)) = ((dn * (v.pts.length - 1) : Nat) : Int) := by
      rw [← Int.natCast_mul]
      have hb : dn * (v.pts.length - 1) ≤ 18 := Nat.le_trans (Nat.mul_le_mul hdn (show v.pts.length - 1 ≤ 3 by omega)) (by decide)
      exact wr_eq (by omega) (by omega)
    simp only [hnd0, hnd6, r10_3, go_sem, bne_iff_ne, Int.cast_ofNat_Int, ↓reduceIte, Nat.reduceEqDiff, Nat.reduceAdd, Nat.reduceMul, Nat.reduceLeDiff, Nat.reduceSub, Nat.reduceLT, Int.reduceToNat, Int.reduceLT, Int.reduceLE, reduceCtorEq, Nat.zero_add, Nat.add_zero, and_self, and_true, true_and, ne_eq, not_false_eq_true, not_true_eq_false, decide_true, decide_false, Bool.false_eq_true, Bool.not_true, Bool.not_false, Bool.true_and, Bool.and_true, Bool.or_false, Bool.false_or, Bool.and_self]
    refine R_callk ?_
    try simp only [go_sem, bne_iff_ne, Int.cast_ofNat_Int, ↓reduceIte, Nat.reduceEqDiff, Nat.reduceAdd, Nat.reduceMul, Nat.reduceLeDiff, Nat.reduceSub, Nat.reduceLT, Int.reduceToNat, Int.reduceLT, Int.reduceLE, reduceCtorEq, Nat.zero_add, Nat.add_zero, and_self, and_true, true_and, ne_eq, not_false_eq_true, not_true_eq_false, decide_true, decide_false, Bool.false_eq_true, Bool.not_true, Bool.not_false, Bool.true_and, Bool.and_true, Bool.or_false, Bool.false_or, Bool.and_self]
    refine (Flat38 v r dn (frz m) n (Rd.frz hr) hall hdn).mono ?_
    rintro _ m1 n1 ⟨rs, rfl, hn1, _, how⟩
    have hmx : max n n1 = n1 := Nat.max_eq_right hn1
    have hr1 : RP (unfrz m n m1) n1 r v.pts := RP.keep' hr hn1 (fun i hi => by rw [unfrz_at, if_pos (RP.lt hr hi)])
    have hs1 : RP (unfrz m n m1) n1 rs (flat dn v) := (Sn.unfrz (m := m) how.sn).1
    rw [hmx]
    generalize unfrz m n m1 = M1 at hr1 hs1 ⊢
    have hlr := Rd.len hr1
    have hls := Rd.len hs1
    obtain ⟨ids, offs, caps, rfl, hids, _⟩ := RP.sl hs1 (i := 0) (by omega)
    have key : ∀ (k i : Nat) (e : Nat → Reg) (m : Mem) (n' : Nat), i + k = (flat dn v).length → n1 ≤ n' → (∀ j, j < n1 → m j = M1 j) → e 0 = r → e 1 = RI (dn : Int) → e 7 = RI E → e 47 = .one (.sl ids offs (flat dn v).length caps 2) → e 48 = RI (flat dn v).length → e 49 = RI i →
        X TA L ⟨e, m, n'⟩ (fun x s' => x = .x 0) := by
      intro k
      induction k with
      | zero =>
        intro i e m n' hi hn hM h0 h1 h7 h47 h48 h49
        refine hX _ _ ?_
        have hlt : ¬ ((i : Int) < ((flat dn v).length : Int)) := by omega
        simp only [l10_0, r10_8, h48, h49, hlt, go_sem, bne_iff_ne, Int.cast_ofNat_Int, ↓reduceIte, Nat.reduceEqDiff, Nat.reduceAdd, Nat.reduceMul, Nat.reduceLeDiff, Nat.reduceSub, Nat.reduceLT, Int.reduceToNat, Int.reduceLT, Int.reduceLE, reduceCtorEq, Nat.zero_add, Nat.add_zero, and_self, and_true, true_and, ne_eq, not_false_eq_true, not_true_eq_false, decide_true, decide_false, Bool.false_eq_true, Bool.not_true, Bool.not_false, Bool.true_and, Bool.and_true, Bool.or_false, Bool.false_or, Bool.and_self]
      | succ k ih =>
        intro i e m n' hi hn hM h0 h1 h7 h47 h48 h49
        refine hX _ _ ?_
        have hil : i < (flat dn v).length := by omega
        have hlt : ((i : Int) < ((flat dn v).length : Int)) := by omega
        have h00 : (0 : Int) ≤ (i : Int) := by omega
        obtain ⟨_, _, _, he, _, q⟩ := RP.sl hs1 hil
        cases he
        have q' : rd m ids (offs + i * 2) 2 = some [I (flat dn v)[i].x, I (flat dn v)[i].y] := by unfold rd at q ⊢; rw [hM _ hids]; exact q
        have hPin := flat_in dn v hall _ (List.getElem_mem hil)
        have nx := hnx i _ (List.getElem?_eq_getElem hil)
        have ny := hny i _ (List.getElem?_eq_getElem hil)
        generalize (flat dn v)[i] = P at q q' hPin nx ny
        rw [inP_iff] at hPin
        have hrm : RP m n' r v.pts := RP.keep' hr1 hn (fun i hi => hM i (RP.lt hr1 hi))
        have hw : IntKind.i64.wrap ((i : Int) + 1) = ((i : Int) + 1) := wr_eq (by omega) (by omega)
        have hbx := wmul (w := E) (X := P.x) ⟨by omega, hE3⟩ hPin.1
        have hby := wmul (w := E) (X := P.y) ⟨by omega, hE3⟩ hPin.2
        rw [Int.mul_comm E P.x] at hbx nx
        rw [Int.mul_comm E P.y] at hby ny
        have hdE : 0 ≤ (dn : Int) * E ∧ (dn : Int) * E ≤ 6 * 262144 := ⟨Int.mul_nonneg (by omega) (by omega), Int.le_trans (Int.mul_le_mul_of_nonneg_left hE3 (by omega)) (Int.mul_le_mul_of_nonneg_right (by omega) (by omega))⟩
        rw [Int.mul_assoc 2] at nx ny
        have w2d : IntKind.i64.wrap (2 * (dn : Int)) = 2 * (dn : Int) := wr_eq (by omega) (by omega)
        have wdE : IntKind.i64.wrap (2 * (dn : Int) * E) = 2 * ((dn : Int) * E) := by rw [Int.mul_assoc, wr_eq (by omega) (by omega)]
        have wPx : IntKind.i64.wrap (P.x * E) = P.x * E := wr_eq (by omega) (by omega)
        have wPy : IntKind.i64.wrap (P.y * E) = P.y * E := wr_eq (by omega) (by omega)
        obtain ⟨X, hXX⟩ : ∃ X, X = val (((2 ^ dn : Nat) : Int) - ((i : Int) + 1)) ((i : Int) + 1) Pt.x v := ⟨_, rfl⟩
        obtain ⟨Y, hYY⟩ : ∃ Y, Y = val (((2 ^ dn : Nat) : Int) - ((i : Int) + 1)) ((i : Int) + 1) Pt.y v := ⟨_, rfl⟩
        have hat := At43 v (((2 ^ dn : Nat) : Int) - ((i : Int) + 1)) ((i : Int) + 1) dn hdn (by omega) (by omega) (by omega) hall
        rw [← hXX, ← hYY] at hat
        rw [← hXX] at nx
        rw [← hYY] at ny
        have wx : IntKind.i64.wrap (X - P.x * E) = X - P.x * E := wr_eq (by omega) (by omega)
        have wy : IntKind.i64.wrap (Y - P.y * E) = Y - P.y * E := wr_eq (by omega) (by omega)
        have nx0 : ¬ (X - P.x * E < 0) := by omega
        have ny0 : ¬ (Y - P.y * E < 0) := by omega
        have nx1 : ¬ (2 * ((dn : Int) * E) < X - P.x * E) := by omega
        have ny1 : ¬ (2 * ((dn : Int) * E) < Y - P.y * E) := by omega
        simp only [l10_0, r10_8, h48, h49, hlt, r10_9, h47, h00, Int.toNat_natCast, q', r10_10, h0, go_sem, bne_iff_ne, Int.cast_ofNat_Int, ↓reduceIte, Nat.reduceEqDiff, Nat.reduceAdd, Nat.reduceMul, Nat.reduceLeDiff, Nat.reduceSub, Nat.reduceLT, Int.reduceToNat, Int.reduceLT, Int.reduceLE, reduceCtorEq, Nat.zero_add, Nat.add_zero, and_self, and_true, true_and, ne_eq, not_false_eq_true, not_true_eq_false, decide_true, decide_false, Bool.false_eq_true, Bool.not_true, Bool.not_false, Bool.true_and, Bool.and_true, Bool.or_false, Bool.false_or, Bool.and_self]
        have hr2 : RP (upd m n' (some ⟨[I P.x, I P.y], true⟩)) (n' + 1) r v.pts := RP.keep' hrm (by omega) (fun i hi => upd_ne _ _ (by have := RP.lt hrm hi; omega))
        have hbox : upd m n' (some ⟨[I P.x, I P.y], true⟩) n' = some ⟨[I P.x, I P.y], true⟩ := upd_same _ _ _
        have hM2 : ∀ j, j < n1 → upd m n' (some ⟨[I P.x, I P.y], true⟩) j = M1 j := fun j hj => by rw [upd_ne _ _ (by omega)]; exact hM j hj
        generalize upd m n' (some ⟨[I P.x, I P.y], true⟩) = M2 at hr2 hbox hM2 ⊢
        refine R_callk ?_
        try simp only [go_sem, bne_iff_ne, Int.cast_ofNat_Int, ↓reduceIte, Nat.reduceEqDiff, Nat.reduceAdd, Nat.reduceMul, Nat.reduceLeDiff, Nat.reduceSub, Nat.reduceLT, Int.reduceToNat, Int.reduceLT, Int.reduceLE, reduceCtorEq, Nat.zero_add, Nat.add_zero, and_self, and_true, true_and, ne_eq, not_false_eq_true, not_true_eq_false, decide_true, decide_false, Bool.false_eq_true, Bool.not_true, Bool.not_false, Bool.true_and, Bool.and_true, Bool.or_false, Bool.false_or, Bool.and_self]
        refine (ref42 r v.pts (frz M2) (n' + 1) (Rd.frz hr2) (by omega)).mono ?_
        rintro rr m3 n3 ⟨hn3, _, ho3⟩
        have hmx3 : max (n' + 1) n3 = n3 := Nat.max_eq_right hn3
        have ho3 : RP (unfrz M2 (n' + 1) m3) n3 rr v.pts := (Sn.unfrz (m := M2) ho3.sn).1
        have hbox3 : unfrz M2 (n' + 1) m3 n' = some ⟨[I P.x, I P.y], true⟩ := by rw [unfrz_at, if_pos (by omega)]; exact hbox
        have hM3 : ∀ j, j < n1 → unfrz M2 (n' + 1) m3 j = M1 j := fun j hj => by rw [unfrz_at, if_pos (by omega)]; exact hM2 j hj
        rw [hmx3]
        generalize unfrz M2 (n' + 1) m3 = M3 at ho3 hbox3 hM3 ⊢
        simp only [h1, hw, go_sem, bne_iff_ne, Int.cast_ofNat_Int, ↓reduceIte, Nat.reduceEqDiff, Nat.reduceAdd, Nat.reduceMul, Nat.reduceLeDiff, Nat.reduceSub, Nat.reduceLT, Int.reduceToNat, Int.reduceLT, Int.reduceLE, reduceCtorEq, Nat.zero_add, Nat.add_zero, and_self, and_true, true_and, ne_eq, not_false_eq_true, not_true_eq_false, decide_true, decide_false, Bool.false_eq_true, Bool.not_true, Bool.not_false, Bool.true_and, Bool.and_true, Bool.or_false, Bool.false_or, Bool.and_self]
        refine R_callq ?_
        try simp only [h1, go_sem, bne_iff_ne, Int.cast_ofNat_Int, ↓reduceIte, Nat.reduceEqDiff, Nat.reduceAdd, Nat.reduceMul, Nat.reduceLeDiff, Nat.reduceSub, Nat.reduceLT, Int.reduceToNat, Int.reduceLT, Int.reduceLE, reduceCtorEq, Nat.zero_add, Nat.add_zero, and_self, and_true, true_and, ne_eq, not_false_eq_true, not_true_eq_false, decide_true, decide_false, Bool.false_eq_true, Bool.not_true, Bool.not_false, Bool.true_and, Bool.and_true, Bool.or_false, Bool.false_or, Bool.and_self]
        refine (hat rr (frz M3) n3 (Rd.frz ho3)).mono ?_
        rintro _ _ _ rfl
        refine ⟨rfl, ?_⟩
        simp only [r10_11, hbox3, h7, wPx, wPy, wx, wy, r10_12, nx0, ny0, h1, w2d, wdE, nx1, ny1, r10_14, h49, hw, go_sem, bne_iff_ne, Int.cast_ofNat_Int, ↓reduceIte, Nat.reduceEqDiff, Nat.reduceAdd, Nat.reduceMul, Nat.reduceLeDiff, Nat.reduceSub, Nat.reduceLT, Int.reduceToNat, Int.reduceLT, Int.reduceLE, reduceCtorEq, Nat.zero_add, Nat.add_zero, and_self, and_true, true_and, ne_eq, not_false_eq_true, not_true_eq_false, decide_true, decide_false, Bool.false_eq_true, Bool.not_true, Bool.not_false, Bool.true_and, Bool.and_true, Bool.or_false, Bool.false_or, Bool.and_self]
        refine ih (i + 1) _ _ _ (by omega) (by omega) hM3 ?_ ?_ ?_ ?_ ?_ ?_
        · simp only [h0, go_sem, bne_iff_ne, Int.cast_ofNat_Int, ↓reduceIte, Nat.reduceEqDiff, Nat.reduceAdd, Nat.reduceMul, Nat.reduceLeDiff, Nat.reduceSub, Nat.reduceLT, Int.reduceToNat, Int.reduceLT, Int.reduceLE, reduceCtorEq, Nat.zero_add, Nat.add_zero, and_self, and_true, true_and, ne_eq, not_false_eq_true, not_true_eq_false, decide_true, decide_false, Bool.false_eq_true, Bool.not_true, Bool.not_false, Bool.true_and, Bool.and_true, Bool.or_false, Bool.false_or, Bool.and_self]
        · simp only [h1, go_sem, bne_iff_ne, Int.cast_ofNat_Int, ↓reduceIte, Nat.reduceEqDiff, Nat.reduceAdd, Nat.reduceMul, Nat.reduceLeDiff, Nat.reduceSub, Nat.reduceLT, Int.reduceToNat, Int.reduceLT, Int.reduceLE, reduceCtorEq, Nat.zero_add, Nat.add_zero, and_self, and_true, true_and, ne_eq, not_false_eq_true, not_true_eq_false, decide_true, decide_false, Bool.false_eq_true, Bool.not_true, Bool.not_false, Bool.true_and, Bool.and_true, Bool.or_false, Bool.false_or, Bool.and_self]
        · simp only [h7, go_sem, bne_iff_ne, Int.cast_ofNat_Int, ↓reduceIte, Nat.reduceEqDiff, Nat.reduceAdd, Nat.reduceMul, Nat.reduceLeDiff, Nat.reduceSub, Nat.reduceLT, Int.reduceToNat, Int.reduceLT, Int.reduceLE, reduceCtorEq, Nat.zero_add, Nat.add_zero, and_self, and_true, true_and, ne_eq, not_false_eq_true, not_true_eq_false, decide_true, decide_false, Bool.false_eq_true, Bool.not_true, Bool.not_false, Bool.true_and, Bool.and_true, Bool.or_false, Bool.false_or, Bool.and_self]
        · simp only [h47, go_sem, bne_iff_ne, Int.cast_ofNat_Int, ↓reduceIte, Nat.reduceEqDiff, Nat.reduceAdd, Nat.reduceMul, Nat.reduceLeDiff, Nat.reduceSub, Nat.reduceLT, Int.reduceToNat, Int.reduceLT, Int.reduceLE, reduceCtorEq, Nat.zero_add, Nat.add_zero, and_self, and_true, true_and, ne_eq, not_false_eq_true, not_true_eq_false, decide_true, decide_false, Bool.false_eq_true, Bool.not_true, Bool.not_false, Bool.true_and, Bool.and_true, Bool.or_false, Bool.false_or, Bool.and_self]
        · simp only [h48, go_sem, bne_iff_ne, Int.cast_ofNat_Int, ↓reduceIte, Nat.reduceEqDiff, Nat.reduceAdd, Nat.reduceMul, Nat.reduceLeDiff, Nat.reduceSub, Nat.reduceLT, Int.reduceToNat, Int.reduceLT, Int.reduceLE, reduceCtorEq, Nat.zero_add, Nat.add_zero, and_self, and_true, true_and, ne_eq, not_false_eq_true, not_true_eq_false, decide_true, decide_false, Bool.false_eq_true, Bool.not_true, Bool.not_false, Bool.true_and, Bool.and_true, Bool.or_false, Bool.false_or, Bool.and_self]
        · simp only [go_sem, bne_iff_ne, Int.cast_ofNat_Int, ↓reduceIte, Nat.reduceEqDiff, Nat.reduceAdd, Nat.reduceMul, Nat.reduceLeDiff, Nat.reduceSub, Nat.reduceLT, Int.reduceToNat, Int.reduceLT, Int.reduceLE, reduceCtorEq, Nat.zero_add, Nat.add_zero, and_self, and_true, true_and, ne_eq, not_false_eq_true, not_true_eq_false, decide_true, decide_false, Bool.false_eq_true, Bool.not_true, Bool.not_false, Bool.true_and, Bool.and_true, Bool.or_false, Bool.false_or, Bool.and_self]
          rfl
    simp only [r10_4, bin_shl_small dn hdn, hfl, r10_6, hlr, hw1, hw2, hE1, r10_7, ← hL, go_sem, bne_iff_ne, Int.cast_ofNat_Int, ↓reduceIte, Nat.reduceEqDiff, Nat.reduceAdd, Nat.reduceMul, Nat.reduceLeDiff, Nat.reduceSub, Nat.reduceLT, Int.reduceToNat, Int.reduceLT, Int.reduceLE, reduceCtorEq, Nat.zero_add, Nat.add_zero, and_self, and_true, true_and, ne_eq, not_false_eq_true, not_true_eq_false, decide_true, decide_false, Bool.false_eq_true, Bool.not_true, Bool.not_false, Bool.true_and, Bool.and_true, Bool.or_false, Bool.false_or, Bool.and_self]
    refine (key _ 0 _ _ _ (Nat.zero_add _) (Nat.le_refl _) (fun _ _ => rfl) ?_ ?_ ?_ ?_ ?_ ?_).mono ?_
    · simp only [go_sem, bne_iff_ne, Int.cast_ofNat_Int, ↓reduceIte, Nat.reduceEqDiff, Nat.reduceAdd, Nat.reduceMul, Nat.reduceLeDiff, Nat.reduceSub, Nat.reduceLT, Int.reduceToNat, Int.reduceLT, Int.reduceLE, reduceCtorEq, Nat.zero_add, Nat.add_zero, and_self, and_true, true_and, ne_eq, not_false_eq_true, not_true_eq_false, decide_true, decide_false, Bool.false_eq_true, Bool.not_true, Bool.not_false, Bool.true_and, Bool.and_true, Bool.or_false, Bool.false_or, Bool.and_self]
    · simp only [go_sem, bne_iff_ne, Int.cast_ofNat_Int, ↓reduceIte, Nat.reduceEqDiff, Nat.reduceAdd, Nat.reduceMul, Nat.reduceLeDiff, Nat.reduceSub, Nat.reduceLT, Int.reduceToNat, Int.reduceLT, Int.reduceLE, reduceCtorEq, Nat.zero_add, Nat.add_zero, and_self, and_true, true_and, ne_eq, not_false_eq_true, not_true_eq_false, decide_true, decide_false, Bool.false_eq_true, Bool.not_true, Bool.not_false, Bool.true_and, Bool.and_true, Bool.or_false, Bool.false_or, Bool.and_self]
    · simp only [go_sem, bne_iff_ne, Int.cast_ofNat_Int, ↓reduceIte, Nat.reduceEqDiff, Nat.reduceAdd, Nat.reduceMul, Nat.reduceLeDiff, Nat.reduceSub, Nat.reduceLT, Int.reduceToNat, Int.reduceLT, Int.reduceLE, reduceCtorEq, Nat.zero_add, Nat.add_zero, and_self, and_true, true_and, ne_eq, not_false_eq_true, not_true_eq_false, decide_true, decide_false, Bool.false_eq_true, Bool.not_true, Bool.not_false, Bool.true_and, Bool.and_true, Bool.or_false, Bool.false_or, Bool.and_self]
    · simp only [hfl, go_sem, bne_iff_ne, Int.cast_ofNat_Int, ↓reduceIte, Nat.reduceEqDiff, Nat.reduceAdd, Nat.reduceMul, Nat.reduceLeDiff, Nat.reduceSub, Nat.reduceLT, Int.reduceToNat, Int.reduceLT, Int.reduceLE, reduceCtorEq, Nat.zero_add, Nat.add_zero, and_self, and_true, true_and, ne_eq, not_false_eq_true, not_true_eq_false, decide_true, decide_false, Bool.false_eq_true, Bool.not_true, Bool.not_false, Bool.true_and, Bool.and_true, Bool.or_false, Bool.false_or, Bool.and_self]
    · simp only [hfl, go_sem, bne_iff_ne, Int.cast_ofNat_Int, ↓reduceIte, Nat.reduceEqDiff, Nat.reduceAdd, Nat.reduceMul, Nat.reduceLeDiff, Nat.reduceSub, Nat.reduceLT, Int.reduceToNat, Int.reduceLT, Int.reduceLE, reduceCtorEq, Nat.zero_add, Nat.add_zero, and_self, and_true, true_and, ne_eq, not_false_eq_true, not_true_eq_false, decide_true, decide_false, Bool.false_eq_true, Bool.not_true, Bool.not_false, Bool.true_and, Bool.and_true, Bool.or_false, Bool.false_or, Bool.and_self]
    · simp only [go_sem, bne_iff_ne, Int.cast_ofNat_Int, ↓reduceIte, Nat.reduceEqDiff, Nat.reduceAdd, Nat.reduceMul, Nat.reduceLeDiff, Nat.reduceSub, Nat.reduceLT, Int.reduceToNat, Int.reduceLT, Int.reduceLE, reduceCtorEq, Nat.zero_add, Nat.add_zero, and_self, and_true, true_and, ne_eq, not_false_eq_true, not_true_eq_false, decide_true, decide_false, Bool.false_eq_true, Bool.not_true, Bool.not_false, Bool.true_and, Bool.and_true, Bool.or_false, Bool.false_or, Bool.and_self]
    · rintro x s' rfl
      simp only [r10_15, go_sem, bne_iff_ne, Int.cast_ofNat_Int, ↓reduceIte, Nat.reduceEqDiff, Nat.reduceAdd, Nat.reduceMul, Nat.reduceLeDiff, Nat.reduceSub, Nat.reduceLT, Int.reduceToNat, Int.reduceLT, Int.reduceLE, reduceCtorEq, Nat.zero_add, Nat.add_zero, and_self, and_true, true_and, ne_eq, not_false_eq_true, not_true_eq_false, decide_true, decide_false, Bool.false_eq_true, Bool.not_true, Bool.not_false, Bool.true_and, Bool.and_true, Bool.or_false, Bool.false_or, Bool.and_self]
      refine R_callz (by first | (simp only [flats, Reg.flat, Cell.flat, List.all_cons, List.all_nil, Bool.and_self, go_sem, bne_iff_ne, Int.cast_ofNat_Int, ↓reduceIte, Nat.reduceEqDiff, Nat.reduceAdd, Nat.reduceMul, Nat.reduceLeDiff, Nat.reduceSub, Nat.reduceLT, Int.reduceToNat, Int.reduceLT, Int.reduceLE, reduceCtorEq, Nat.zero_add, Nat.add_zero, and_self, and_true, true_and, ne_eq, not_false_eq_true, not_true_eq_false, decide_true, decide_false, Bool.false_eq_true, Bool.not_true, Bool.not_false, Bool.true_and, Bool.and_true, Bool.or_false, Bool.false_or, Bool.and_self]; done) | rfl) ?_
      try simp only [go_sem, bne_iff_ne, Int.cast_ofNat_Int, ↓reduceIte, Nat.reduceEqDiff, Nat.reduceAdd, Nat.reduceMul, Nat.reduceLeDiff, Nat.reduceSub, Nat.reduceLT, Int.reduceToNat, Int.reduceLT, Int.reduceLE, reduceCtorEq, Nat.zero_add, Nat.add_zero, and_self, and_true, true_and, ne_eq, not_false_eq_true, not_true_eq_false, decide_true, decide_false, Bool.false_eq_true, Bool.not_true, Bool.not_false, Bool.true_and, Bool.and_true, Bool.or_false, Bool.false_or, Bool.and_self]
      refine Fn.mono (awake37) ?_
      rintro _ _ _ rfl
      refine ⟨rfl, ?_⟩
      try simp only [go_sem, bne_iff_ne, Int.cast_ofNat_Int, ↓reduceIte, Nat.reduceEqDiff, Nat.reduceAdd, Nat.reduceMul, Nat.reduceLeDiff, Nat.reduceSub, Nat.reduceLT, Int.reduceToNat, Int.reduceLT, Int.reduceLE, reduceCtorEq, Nat.zero_add, Nat.add_zero, and_self, and_true, true_and, ne_eq, not_false_eq_true, not_true_eq_false, decide_true, decide_false, Bool.false_eq_true, Bool.not_true, Bool.not_false, Bool.true_and, Bool.and_true, Bool.or_false, Bool.false_or, Bool.and_self]

theorem rowL10 (hmix : Try.prog.follows .mixedOrders = true) (W : World) (v : Value)
    (h : v = .slice none 0 0 ∨ ∃ b o len cap vs, v = .slice (some ⟨b, o, none⟩) len cap ∧ b < W.heap.size ∧ len ≤ cap ∧ cap ≤ maxLen ∧ RowsOk [.int .i64, .int .i64] cap vs ∧ ∀ (i : Nat) (x : Value), vs[i]? = some x → W.cell? ⟨b, o + i, none⟩ = some x) (d : Int) (hd : IntKind.i64.min ≤ d ∧ d ≤ IntKind.i64.max) :
    Calls Try.prog 10 #[v, .int .i64 d] W (fun e w' => e = .returned (.bool true) ∧ Go.RowKit.Below W.heap.size W w') :=
  row_ptsL (fun l d r m n hl h => law10 l d r m n hl h) hmix W v h d hd
end Go.Proofs.Ytkneefkhggacmaa.Sy
