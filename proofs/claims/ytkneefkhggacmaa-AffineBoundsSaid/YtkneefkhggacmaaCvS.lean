/- Curves: the law CurveBounds. Conditions: those that each theorem names. -/
import Derived.Test.YtkneefkhggacmaaCvR
namespace Go.Proofs.Ytkneefkhggacmaa.Sy
open Go Go.Proofs
set_option linter.unusedSimpArgs false
set_option linter.unusedVariables false
attribute [local go_sem] R_nil R_mv R_pick R_alloc R_box R_build R_bslice R_load1 R_loadA R_store R_nilchk R_bin R_beq R_eqv R_eqnil R_un R_conv R_mkfn R_mkslice R_slS R_slA R_fadr R_fld R_iadrA R_iadrS R_idxA R_ext R_len R_lenC R_cap R_app R_cpy R_mn R_mx
  evalOp evO evOs upd_upd upd_at unfrz_at putE_some putE_none Then_some X_seq X_reg X_dreg X_ret X_skip X_exit X_block X_condK condK_bool Next_n Next_x Next_r Out_n Out_x Out_r Ret_n Ret_r
  bin_shr1 bin_add bin_sub bin_mul bin_lss bin_leq bin_gtr bin_geq bin_eql bin_neq un_not un_neg boolOf_b boolOf_tup R_guard Option.map_some evRes pack_one pack_two pack_three pack_none List.getD_cons_zero List.getD_cons_succ getD_nil
  Option.some.injEq exists_eq_left' Reg.cs? fillC setL List.set_cons_zero List.set_cons_succ List.length_cons List.length_nil rd_upd rdB wr List.drop_zero List.drop_succ_cons List.take_succ_cons List.take_zero List.getElem?_cons_zero List.getElem?_cons_succ
  ix Int.toNat_zero lenO_sl lenO_nil sn1 ns1 sn2 ns2 sn3 ns3 sn4 ns4 sn5 ns5 sn6 ns6 sn7 ns7 sn8 ns8 sn9 ns9 sn10 ns10 sn11 ns11 sn12 ns12 sk1_2 sk1_3 sk1_4 sk1_5 sk1_6 sk1_7 sk1_8 sk2_1 sk2_3 sk2_4 sk2_5 sk2_6 sk2_7 sk2_8 sk3_1 sk3_2 sk3_4 sk3_5 sk3_6 sk3_7 sk3_8 sk4_1 sk4_2 sk4_3 sk4_5 sk4_6 sk4_7 sk4_8 sk5_1 sk5_2 sk5_3 sk5_4 sk5_6 sk5_7 sk5_8 sk6_1 sk6_2 sk6_3 sk6_4 sk6_5 sk6_7 sk6_8 sk7_1 sk7_2 sk7_3 sk7_4 sk7_5 sk7_6 sk7_8 sk8_1 sk8_2 sk8_3 sk8_4 sk8_5 sk8_6 sk8_7

theorem has_iff {b : Bx} {p : Pt} : b.has p = true ↔ (b.x0 ≤ p.x ∧ p.x < b.x1) ∧ b.y0 ≤ p.y ∧ p.y < b.y1 := by
  simp [Bx.has, and_assoc]
theorem has_bx (p : Pt) : p.bx.has p = true := by rw [has_iff]; simp only [Pt.bx]; omega
theorem emp_bx (p : Pt) : p.bx.emp = false := by
  have h1 : ¬ p.x + 1 ≤ p.x := Int.not_le.2 (Int.lt_succ p.x)
  have h2 : ¬ p.y + 1 ≤ p.y := Int.not_le.2 (Int.lt_succ p.y)
  simp only [Bx.emp, Pt.bx, h1, h2, decide_false, Bool.or_self]
theorem emp_has {b : Bx} {p : Pt} (h : b.has p = true) : b.emp = false := by
  rw [has_iff] at h
  simp [Bx.emp]; omega
theorem join_fst {b : Bx} {p q : Pt} (h : b.has p = true) : (b.join q.bx).has p = true := by
  have h1 := emp_has h
  rw [has_iff] at h ⊢
  simp only [Bx.join, h1, emp_bx, Bool.false_eq_true, false_and, if_false, mnI, mxI]
  repeat' split
  all_goals omega
theorem join_snd (b : Bx) (p : Pt) : (b.join p.bx).has p = true := by
  have h := has_bx p
  simp only [Bx.join, emp_bx, Bool.false_eq_true, and_false, if_false]
  split
  · exact h
  · rw [has_iff] at h ⊢
    simp only [mnI, mxI]
    repeat' split
    all_goals omega
theorem bound_keep : ∀ (l : List Pt) (B : Bx) (p : Pt), B.has p = true → (bound B l).has p = true
  | [], B, p, h => h
  | q :: l, B, p, h => bound_keep l _ p (join_fst h)
theorem bound_has : ∀ (l : List Pt) (B : Bx) (p : Pt), p ∈ l → (bound B l).has p = true
  | q :: l, B, p, h => by
    rcases List.mem_cons.1 h with rfl | h
    · exact bound_keep l _ p (join_snd B p)
    · exact bound_has l _ p h
theorem has_mid {b : Bx} {p q : Pt} (hp : b.has p = true) (hq : b.has q = true) : b.has (mid p q) = true := by
  rw [has_iff] at *
  simp only [mid]
  omega
theorem all_fst {b : Bx} {v : Cv} (h : v.pts.all b.has = true) : v.fst.pts.all b.has = true := by
  cases v with
  | quad p q r =>
    simp only [Cv.pts, List.all_cons, List.all_nil, Bool.and_true, Bool.and_eq_true] at h
    obtain ⟨h1, h2, h3⟩ := h
    have a := has_mid h1 h2
    have c := has_mid h2 h3
    simp only [Cv.fst, Cv.pts, List.all_cons, List.all_nil, Bool.and_true, Bool.and_eq_true, h1, a, has_mid a c, and_self]
  | cub p q r s =>
    simp only [Cv.pts, List.all_cons, List.all_nil, Bool.and_true, Bool.and_eq_true] at h
    obtain ⟨h1, h2, h3, h4⟩ := h
    have a := has_mid h1 h2
    have c := has_mid h2 h3
    have e := has_mid h3 h4
    simp only [Cv.fst, Cv.pts, List.all_cons, List.all_nil, Bool.and_true, Bool.and_eq_true, h1, a, has_mid a c, has_mid (has_mid a c) (has_mid c e), and_self]
theorem all_snd {b : Bx} {v : Cv} (h : v.pts.all b.has = true) : v.snd.pts.all b.has = true := by
  cases v with
  | quad p q r =>
    simp only [Cv.pts, List.all_cons, List.all_nil, Bool.and_true, Bool.and_eq_true] at h
    obtain ⟨h1, h2, h3⟩ := h
    have a := has_mid h1 h2
    have c := has_mid h2 h3
    simp only [Cv.snd, Cv.pts, List.all_cons, List.all_nil, Bool.and_true, Bool.and_eq_true, h3, c, has_mid a c, and_self]
  | cub p q r s =>
    simp only [Cv.pts, List.all_cons, List.all_nil, Bool.and_true, Bool.and_eq_true] at h
    obtain ⟨h1, h2, h3, h4⟩ := h
    have a := has_mid h1 h2
    have c := has_mid h2 h3
    have e := has_mid h3 h4
    simp only [Cv.snd, Cv.pts, List.all_cons, List.all_nil, Bool.and_true, Bool.and_eq_true, h4, e, has_mid c e, has_mid (has_mid a c) (has_mid c e), and_self]
theorem last_has {b : Bx} {v : Cv} (h : v.pts.all b.has = true) : b.has v.last = true := by
  cases v <;> simp_all [Cv.pts, Cv.last]
theorem all_flat {b : Bx} : ∀ (d : Nat) (v : Cv), v.pts.all b.has = true → (flat d v).all b.has = true
  | 0, v, h => by simp [flat, last_has h]
  | d + 1, v, h => by
    rw [flat, List.all_append, all_flat d _ (all_fst h), all_flat d _ (all_snd h)]; rfl

theorem Ow.gr {base n : Nat} {m : Mem} {r : Reg} {l : List Pt} (h : Ow base m n r (encP l) l.length 2) (hp : 0 < l.length) : Gr base m n r l := by
  rcases h with ⟨_, hz, _⟩ | ⟨id, rfl, h1, h2, h3, _⟩
  · omega
  · exact ⟨id, none, rfl, h1, h2, h3, Or.inl rfl⟩

theorem law14 (l : List Pt) (d : Int) (r : Reg) (m : Mem) (n : Nat) (hl : l.length ≤ 9223372036854775807) (hr : RP m n r l) : Fn TA 14 [r, RI d] m n (fun r' _ _ => r' = RB true) := by
  refine Fn_of (fn := F14) rfl (by simp [F14]) ?_
  obtain ⟨L, hL⟩ : ∃ L_, L_ = SC.loop l14_0 := ⟨_, rfl⟩
  have hX : ∀ s Q, X TA l14_0 s (Next Q (fun s_ => X TA L s_ Q)) → X TA L s Q := by subst hL; exact fun _ _ h => X_loop h
  simp only [F14, c14, r14_0, r14_1, go_sem, bne_iff_ne, Int.cast_ofNat_Int, ↓reduceIte, Nat.reduceEqDiff, Nat.reduceAdd, Nat.reduceMul, Nat.reduceLeDiff, Nat.reduceSub, Nat.reduceLT, Int.reduceToNat, Int.reduceLT, Int.reduceLE, reduceCtorEq, Nat.zero_add, Nat.add_zero, and_self, and_true, true_and, ne_eq, not_false_eq_true, not_true_eq_false, decide_true, decide_false, Bool.false_eq_true, Bool.not_true, Bool.not_false, Bool.true_and, Bool.and_true, Bool.or_false, Bool.false_or, Bool.and_self]
  refine R_callq ?_
  simp only [go_sem, bne_iff_ne, Int.cast_ofNat_Int, ↓reduceIte, Nat.reduceEqDiff, Nat.reduceAdd, Nat.reduceMul, Nat.reduceLeDiff, Nat.reduceSub, Nat.reduceLT, Int.reduceToNat, Int.reduceLT, Int.reduceLE, reduceCtorEq, Nat.zero_add, Nat.add_zero, and_self, and_true, true_and, ne_eq, not_false_eq_true, not_true_eq_false, decide_true, decide_false, Bool.false_eq_true, Bool.not_true, Bool.not_false, Bool.true_and, Bool.and_true, Bool.or_false, Bool.false_or, Bool.and_self]
  refine (right39 r l _ n (Rd.frz hr) hl).mono ?_
  rintro _ _ _ rfl
  refine ⟨rfl, ?_⟩
  by_cases hno : ¬ (l.all inP = true ∧ (l.length = 3 ∨ l.length = 4)) ∨ d < 0 ∨ 6 < d
  · rcases hc : (l.all inP && (decide (l.length = 3) || decide (l.length = 4))) with _ | _
    · simp only [r14_2, go_sem, bne_iff_ne, Int.cast_ofNat_Int, ↓reduceIte, Nat.reduceEqDiff, Nat.reduceAdd, Nat.reduceMul, Nat.reduceLeDiff, Nat.reduceSub, Nat.reduceLT, Int.reduceToNat, Int.reduceLT, Int.reduceLE, reduceCtorEq, Nat.zero_add, Nat.add_zero, and_self, and_true, true_and, ne_eq, not_false_eq_true, not_true_eq_false, decide_true, decide_false, Bool.false_eq_true, Bool.not_true, Bool.not_false, Bool.true_and, Bool.and_true, Bool.or_false, Bool.false_or, Bool.and_self]
      refine R_callz (by first | (simp only [flats, Reg.flat, Cell.flat, List.all_cons, List.all_nil, Bool.and_self, go_sem, bne_iff_ne, Int.cast_ofNat_Int, ↓reduceIte, Nat.reduceEqDiff, Nat.reduceAdd, Nat.reduceMul, Nat.reduceLeDiff, Nat.reduceSub, Nat.reduceLT, Int.reduceToNat, Int.reduceLT, Int.reduceLE, reduceCtorEq, Nat.zero_add, Nat.add_zero, and_self, and_true, true_and, ne_eq, not_false_eq_true, not_true_eq_false, decide_true, decide_false, Bool.false_eq_true, Bool.not_true, Bool.not_false, Bool.true_and, Bool.and_true, Bool.or_false, Bool.false_or, Bool.and_self]; done) | rfl) ?_
      try simp only [go_sem, bne_iff_ne, Int.cast_ofNat_Int, ↓reduceIte, Nat.reduceEqDiff, Nat.reduceAdd, Nat.reduceMul, Nat.reduceLeDiff, Nat.reduceSub, Nat.reduceLT, Int.reduceToNat, Int.reduceLT, Int.reduceLE, reduceCtorEq, Nat.zero_add, Nat.add_zero, and_self, and_true, true_and, ne_eq, not_false_eq_true, not_true_eq_false, decide_true, decide_false, Bool.false_eq_true, Bool.not_true, Bool.not_false, Bool.true_and, Bool.and_true, Bool.or_false, Bool.false_or, Bool.and_self]
      refine Fn.mono (awake37) ?_
      rintro _ _ _ rfl
      refine ⟨rfl, ?_⟩
      try simp only [go_sem, bne_iff_ne, Int.cast_ofNat_Int, ↓reduceIte, Nat.reduceEqDiff, Nat.reduceAdd, Nat.reduceMul, Nat.reduceLeDiff, Nat.reduceSub, Nat.reduceLT, Int.reduceToNat, Int.reduceLT, Int.reduceLE, reduceCtorEq, Nat.zero_add, Nat.add_zero, and_self, and_true, true_and, ne_eq, not_false_eq_true, not_true_eq_false, decide_true, decide_false, Bool.false_eq_true, Bool.not_true, Bool.not_false, Bool.true_and, Bool.and_true, Bool.or_false, Bool.false_or, Bool.and_self]
    · have hc' : l.all inP = true ∧ (l.length = 3 ∨ l.length = 4) := by simpa using hc
      rcases hno with h | h | h
      · exact absurd hc' h
      · simp only [h, r14_2, go_sem, bne_iff_ne, Int.cast_ofNat_Int, ↓reduceIte, Nat.reduceEqDiff, Nat.reduceAdd, Nat.reduceMul, Nat.reduceLeDiff, Nat.reduceSub, Nat.reduceLT, Int.reduceToNat, Int.reduceLT, Int.reduceLE, reduceCtorEq, Nat.zero_add, Nat.add_zero, and_self, and_true, true_and, ne_eq, not_false_eq_true, not_true_eq_false, decide_true, decide_false, Bool.false_eq_true, Bool.not_true, Bool.not_false, Bool.true_and, Bool.and_true, Bool.or_false, Bool.false_or, Bool.and_self]
        refine R_callz (by first | (simp only [flats, Reg.flat, Cell.flat, List.all_cons, List.all_nil, Bool.and_self, go_sem, bne_iff_ne, Int.cast_ofNat_Int, ↓reduceIte, Nat.reduceEqDiff, Nat.reduceAdd, Nat.reduceMul, Nat.reduceLeDiff, Nat.reduceSub, Nat.reduceLT, Int.reduceToNat, Int.reduceLT, Int.reduceLE, reduceCtorEq, Nat.zero_add, Nat.add_zero, and_self, and_true, true_and, ne_eq, not_false_eq_true, not_true_eq_false, decide_true, decide_false, Bool.false_eq_true, Bool.not_true, Bool.not_false, Bool.true_and, Bool.and_true, Bool.or_false, Bool.false_or, Bool.and_self]; done) | rfl) ?_
        try simp only [go_sem, bne_iff_ne, Int.cast_ofNat_Int, ↓reduceIte, Nat.reduceEqDiff, Nat.reduceAdd, Nat.reduceMul, Nat.reduceLeDiff, Nat.reduceSub, Nat.reduceLT, Int.reduceToNat, Int.reduceLT, Int.reduceLE, reduceCtorEq, Nat.zero_add, Nat.add_zero, and_self, and_true, true_and, ne_eq, not_false_eq_true, not_true_eq_false, decide_true, decide_false, Bool.false_eq_true, Bool.not_true, Bool.not_false, Bool.true_and, Bool.and_true, Bool.or_false, Bool.false_or, Bool.and_self]
        refine Fn.mono (awake37) ?_
        rintro _ _ _ rfl
        refine ⟨rfl, ?_⟩
        try simp only [go_sem, bne_iff_ne, Int.cast_ofNat_Int, ↓reduceIte, Nat.reduceEqDiff, Nat.reduceAdd, Nat.reduceMul, Nat.reduceLeDiff, Nat.reduceSub, Nat.reduceLT, Int.reduceToNat, Int.reduceLT, Int.reduceLE, reduceCtorEq, Nat.zero_add, Nat.add_zero, and_self, and_true, true_and, ne_eq, not_false_eq_true, not_true_eq_false, decide_true, decide_false, Bool.false_eq_true, Bool.not_true, Bool.not_false, Bool.true_and, Bool.and_true, Bool.or_false, Bool.false_or, Bool.and_self]
      · by_cases h0 : d < 0
        · simp only [h0, r14_2, go_sem, bne_iff_ne, Int.cast_ofNat_Int, ↓reduceIte, Nat.reduceEqDiff, Nat.reduceAdd, Nat.reduceMul, Nat.reduceLeDiff, Nat.reduceSub, Nat.reduceLT, Int.reduceToNat, Int.reduceLT, Int.reduceLE, reduceCtorEq, Nat.zero_add, Nat.add_zero, and_self, and_true, true_and, ne_eq, not_false_eq_true, not_true_eq_false, decide_true, decide_false, Bool.false_eq_true, Bool.not_true, Bool.not_false, Bool.true_and, Bool.and_true, Bool.or_false, Bool.false_or, Bool.and_self]
          refine R_callz (by first | (simp only [flats, Reg.flat, Cell.flat, List.all_cons, List.all_nil, Bool.and_self, go_sem, bne_iff_ne, Int.cast_ofNat_Int, ↓reduceIte, Nat.reduceEqDiff, Nat.reduceAdd, Nat.reduceMul, Nat.reduceLeDiff, Nat.reduceSub, Nat.reduceLT, Int.reduceToNat, Int.reduceLT, Int.reduceLE, reduceCtorEq, Nat.zero_add, Nat.add_zero, and_self, and_true, true_and, ne_eq, not_false_eq_true, not_true_eq_false, decide_true, decide_false, Bool.false_eq_true, Bool.not_true, Bool.not_false, Bool.true_and, Bool.and_true, Bool.or_false, Bool.false_or, Bool.and_self]; done) | rfl) ?_
          try simp only [go_sem, bne_iff_ne, Int.cast_ofNat_Int, ↓reduceIte, Nat.reduceEqDiff, Nat.reduceAdd, Nat.reduceMul, Nat.reduceLeDiff, Nat.reduceSub, Nat.reduceLT, Int.reduceToNat, Int.reduceLT, Int.reduceLE, reduceCtorEq, Nat.zero_add, Nat.add_zero, and_self, and_true, true_and, ne_eq, not_false_eq_true, not_true_eq_false, decide_true, decide_false, Bool.false_eq_true, Bool.not_true, Bool.not_false, Bool.true_and, Bool.and_true, Bool.or_false, Bool.false_or, Bool.and_self]
          refine Fn.mono (awake37) ?_
          rintro _ _ _ rfl
          refine ⟨rfl, ?_⟩
          try simp only [go_sem, bne_iff_ne, Int.cast_ofNat_Int, ↓reduceIte, Nat.reduceEqDiff, Nat.reduceAdd, Nat.reduceMul, Nat.reduceLeDiff, Nat.reduceSub, Nat.reduceLT, Int.reduceToNat, Int.reduceLT, Int.reduceLE, reduceCtorEq, Nat.zero_add, Nat.add_zero, and_self, and_true, true_and, ne_eq, not_false_eq_true, not_true_eq_false, decide_true, decide_false, Bool.false_eq_true, Bool.not_true, Bool.not_false, Bool.true_and, Bool.and_true, Bool.or_false, Bool.false_or, Bool.and_self]
        · simp only [h0, h, r14_2, go_sem, bne_iff_ne, Int.cast_ofNat_Int, ↓reduceIte, Nat.reduceEqDiff, Nat.reduceAdd, Nat.reduceMul, Nat.reduceLeDiff, Nat.reduceSub, Nat.reduceLT, Int.reduceToNat, Int.reduceLT, Int.reduceLE, reduceCtorEq, Nat.zero_add, Nat.add_zero, and_self, and_true, true_and, ne_eq, not_false_eq_true, not_true_eq_false, decide_true, decide_false, Bool.false_eq_true, Bool.not_true, Bool.not_false, Bool.true_and, Bool.and_true, Bool.or_false, Bool.false_or, Bool.and_self]
          refine R_callz (by first | (simp only [flats, Reg.flat, Cell.flat, List.all_cons, List.all_nil, Bool.and_self, go_sem, bne_iff_ne, Int.cast_ofNat_Int, ↓reduceIte, Nat.reduceEqDiff, Nat.reduceAdd, Nat.reduceMul, Nat.reduceLeDiff, Nat.reduceSub, Nat.reduceLT, Int.reduceToNat, Int.reduceLT, Int.reduceLE, reduceCtorEq, Nat.zero_add, Nat.add_zero, and_self, and_true, true_and, ne_eq, not_false_eq_true, not_true_eq_false, decide_true, decide_false, Bool.false_eq_true, Bool.not_true, Bool.not_false, Bool.true_and, Bool.and_true, Bool.or_false, Bool.false_or, Bool.and_self]; done) | rfl) ?_
          try simp only [go_sem, bne_iff_ne, Int.cast_ofNat_Int, ↓reduceIte, Nat.reduceEqDiff, Nat.reduceAdd, Nat.reduceMul, Nat.reduceLeDiff, Nat.reduceSub, Nat.reduceLT, Int.reduceToNat, Int.reduceLT, Int.reduceLE, reduceCtorEq, Nat.zero_add, Nat.add_zero, and_self, and_true, true_and, ne_eq, not_false_eq_true, not_true_eq_false, decide_true, decide_false, Bool.false_eq_true, Bool.not_true, Bool.not_false, Bool.true_and, Bool.and_true, Bool.or_false, Bool.false_or, Bool.and_self]
          refine Fn.mono (awake37) ?_
          rintro _ _ _ rfl
          refine ⟨rfl, ?_⟩
          try simp only [go_sem, bne_iff_ne, Int.cast_ofNat_Int, ↓reduceIte, Nat.reduceEqDiff, Nat.reduceAdd, Nat.reduceMul, Nat.reduceLeDiff, Nat.reduceSub, Nat.reduceLT, Int.reduceToNat, Int.reduceLT, Int.reduceLE, reduceCtorEq, Nat.zero_add, Nat.add_zero, and_self, and_true, true_and, ne_eq, not_false_eq_true, not_true_eq_false, decide_true, decide_false, Bool.false_eq_true, Bool.not_true, Bool.not_false, Bool.true_and, Bool.and_true, Bool.or_false, Bool.false_or, Bool.and_self]
  · have hyes : (l.all inP = true ∧ (l.length = 3 ∨ l.length = 4)) ∧ 0 ≤ d ∧ d ≤ 6 := by
      refine ⟨Classical.byContradiction fun h => hno (Or.inl h), ?_, ?_⟩
      · have : ¬ d < 0 := fun h => hno (Or.inr (Or.inl h)); omega
      · have : ¬ 6 < d := fun h => hno (Or.inr (Or.inr h)); omega
    obtain ⟨⟨hall, h34⟩, hd0, hd6⟩ := hyes
    obtain ⟨v, hv⟩ := toCv_some h34
    obtain ⟨hp, hin, _⟩ := toCv_pts hv
    subst hp
    have hc : (v.pts.all inP && (decide (v.pts.length = 3) || decide (v.pts.length = 4))) = true := by
      rw [hall]; simpa using h34
    rw [hc]
    have hallp := hall
    rw [hin] at hall
    obtain ⟨dn, rfl⟩ := Int.eq_ofNat_of_zero_le hd0
    have hdn : dn ≤ 6 := by omega
    have hnd0 : ¬ ((dn : Int) < 0) := by omega
    have hnd6 : ¬ ((6 : Int) < (dn : Int)) := by omega
    have hfl := flat_length dn v
    have hpw : (2 : Nat) ^ dn ≤ 64 := by
      have : (2 : Nat) ^ dn ≤ 2 ^ 6 := Nat.pow_le_pow_right (by omega) (by omega)
      omega
    have hpos : 0 < (2 : Nat) ^ dn := Nat.two_pow_pos dn
    obtain ⟨B, hB⟩ : ∃ B, B = bound ⟨0, 0, 0, 0⟩ v.pts := ⟨_, rfl⟩
    have hbp : v.pts.all B.has = true := by
      rw [List.all_eq_true]
      intro p hp
      rw [hB]
      exact bound_has _ _ p hp
    simp only [hnd0, hnd6, r14_3, go_sem, bne_iff_ne, Int.cast_ofNat_Int, ↓reduceIte, Nat.reduceEqDiff, Nat.reduceAdd, Nat.reduceMul, Nat.reduceLeDiff, Nat.reduceSub, Nat.reduceLT, Int.reduceToNat, Int.reduceLT, Int.reduceLE, reduceCtorEq, Nat.zero_add, Nat.add_zero, and_self, and_true, true_and, ne_eq, not_false_eq_true, not_true_eq_false, decide_true, decide_false, Bool.false_eq_true, Bool.not_true, Bool.not_false, Bool.true_and, Bool.and_true, Bool.or_false, Bool.false_or, Bool.and_self]
    refine R_callq ?_
    simp only [go_sem, bne_iff_ne, Int.cast_ofNat_Int, ↓reduceIte, Nat.reduceEqDiff, Nat.reduceAdd, Nat.reduceMul, Nat.reduceLeDiff, Nat.reduceSub, Nat.reduceLT, Int.reduceToNat, Int.reduceLT, Int.reduceLE, reduceCtorEq, Nat.zero_add, Nat.add_zero, and_self, and_true, true_and, ne_eq, not_false_eq_true, not_true_eq_false, decide_true, decide_false, Bool.false_eq_true, Bool.not_true, Bool.not_false, Bool.true_and, Bool.and_true, Bool.or_false, Bool.false_or, Bool.and_self]
    refine (Bound49 r v.pts _ n (Rd.frz hr) hl hallp).mono ?_
    rintro _ _ _ rfl
    refine ⟨rfl, ?_⟩
    rw [← hB]
    simp only [r14_4, go_sem, bne_iff_ne, Int.cast_ofNat_Int, ↓reduceIte, Nat.reduceEqDiff, Nat.reduceAdd, Nat.reduceMul, Nat.reduceLeDiff, Nat.reduceSub, Nat.reduceLT, Int.reduceToNat, Int.reduceLT, Int.reduceLE, reduceCtorEq, Nat.zero_add, Nat.add_zero, and_self, and_true, true_and, ne_eq, not_false_eq_true, not_true_eq_false, decide_true, decide_false, Bool.false_eq_true, Bool.not_true, Bool.not_false, Bool.true_and, Bool.and_true, Bool.or_false, Bool.false_or, Bool.and_self]
    have hr0 : RP (upd m n (some ⟨B.cs, true⟩)) (n + 1) r v.pts := RP.keep' hr (by omega) (fun i hi => upd_ne _ _ (by have := RP.lt hr hi; omega))
    have hb0 : upd m n (some ⟨B.cs, true⟩) n = some ⟨B.cs, true⟩ := upd_same _ _ _
    generalize upd m n (some ⟨B.cs, true⟩) = M0 at hr0 hb0 ⊢
    refine R_callq ?_
    try simp only [go_sem, bne_iff_ne, Int.cast_ofNat_Int, ↓reduceIte, Nat.reduceEqDiff, Nat.reduceAdd, Nat.reduceMul, Nat.reduceLeDiff, Nat.reduceSub, Nat.reduceLT, Int.reduceToNat, Int.reduceLT, Int.reduceLE, reduceCtorEq, Nat.zero_add, Nat.add_zero, and_self, and_true, true_and, ne_eq, not_false_eq_true, not_true_eq_false, decide_true, decide_false, Bool.false_eq_true, Bool.not_true, Bool.not_false, Bool.true_and, Bool.and_true, Bool.or_false, Bool.false_or, Bool.and_self]
    refine (Bound31 r v.pts _ _ (Rd.frz hr0) hl hallp).mono ?_
    rintro _ _ _ rfl
    refine ⟨rfl, ?_⟩
    rw [← hB]
    simp only [eqCells, beq_self_eq_true, bne_self_eq_false, r14_6, go_sem, bne_iff_ne, Int.cast_ofNat_Int, ↓reduceIte, Nat.reduceEqDiff, Nat.reduceAdd, Nat.reduceMul, Nat.reduceLeDiff, Nat.reduceSub, Nat.reduceLT, Int.reduceToNat, Int.reduceLT, Int.reduceLE, reduceCtorEq, Nat.zero_add, Nat.add_zero, and_self, and_true, true_and, ne_eq, not_false_eq_true, not_true_eq_false, decide_true, decide_false, Bool.false_eq_true, Bool.not_true, Bool.not_false, Bool.true_and, Bool.and_true, Bool.or_false, Bool.false_or, Bool.and_self]
    refine R_callk ?_
    try simp only [go_sem, bne_iff_ne, Int.cast_ofNat_Int, ↓reduceIte, Nat.reduceEqDiff, Nat.reduceAdd, Nat.reduceMul, Nat.reduceLeDiff, Nat.reduceSub, Nat.reduceLT, Int.reduceToNat, Int.reduceLT, Int.reduceLE, reduceCtorEq, Nat.zero_add, Nat.add_zero, and_self, and_true, true_and, ne_eq, not_false_eq_true, not_true_eq_false, decide_true, decide_false, Bool.false_eq_true, Bool.not_true, Bool.not_false, Bool.true_and, Bool.and_true, Bool.or_false, Bool.false_or, Bool.and_self]
    refine (Flat38 v r dn (frz M0) (n + 1) (Rd.frz hr0) hall hdn).mono ?_
    rintro _ m1 n1 ⟨rs, rfl, hn1, _, how⟩
    have hmx : max (n + 1) n1 = n1 := Nat.max_eq_right hn1
    have hr1 : RP (unfrz M0 (n + 1) m1) n1 r v.pts := RP.keep' hr0 hn1 (fun i hi => by rw [unfrz_at, if_pos (RP.lt hr0 hi)])
    have hg1 : Gr (n + 1) (unfrz M0 (n + 1) m1) n1 rs (flat dn v) := by
      have hg := how.gr (by omega)
      exact hg.keep (Nat.le_refl _) (fun i hi => by rw [unfrz_at, if_neg (by have := hg.sn.2 i hi; omega)])
    have hb1 : unfrz M0 (n + 1) m1 n = some ⟨B.cs, true⟩ := by rw [unfrz_at, if_pos (by omega)]; exact hb0
    rw [hmx]
    generalize unfrz M0 (n + 1) m1 = M1 at hr1 hg1 hb1 ⊢
    simp only [r14_7, go_sem, bne_iff_ne, Int.cast_ofNat_Int, ↓reduceIte, Nat.reduceEqDiff, Nat.reduceAdd, Nat.reduceMul, Nat.reduceLeDiff, Nat.reduceSub, Nat.reduceLT, Int.reduceToNat, Int.reduceLT, Int.reduceLE, reduceCtorEq, Nat.zero_add, Nat.add_zero, and_self, and_true, true_and, ne_eq, not_false_eq_true, not_true_eq_false, decide_true, decide_false, Bool.false_eq_true, Bool.not_true, Bool.not_false, Bool.true_and, Bool.and_true, Bool.or_false, Bool.false_or, Bool.and_self]
    refine R_callk ?_
    refine (Halves45 v r (frz M1) n1 (Rd.frz hr1) hall).mono ?_
    rintro _ m2 n2 ⟨ra, rb, rfl, hn2, _, hx, hy⟩
    have hmx2 : max n1 n2 = n2 := Nat.max_eq_right hn2
    have hg2 : Gr (n + 1) (unfrz M1 n1 m2) n2 rs (flat dn v) := hg1.keep hn2 (fun i hi => by rw [unfrz_at, if_pos (RP.lt hg1.sn.1 hi)])
    have hx2 : RP (unfrz M1 n1 m2) n2 ra v.fst.pts := (Sn.unfrz (m := M1) hx.sn).1
    have hy2 : RP (unfrz M1 n1 m2) n2 rb v.snd.pts := (Sn.unfrz (m := M1) hy.sn).1
    have hb2 : unfrz M1 n1 m2 n = some ⟨B.cs, true⟩ := by rw [unfrz_at, if_pos (by omega)]; exact hb1
    have hya : ∀ i, sid rb = some i → sid rs ≠ some i := fun i hi hs => by
      have h1 := hy.sn.2 i hi
      have h2 := RP.lt hg1.sn.1 hs
      omega
    rw [hmx2]
    generalize unfrz M1 n1 m2 = M2 at hg2 hx2 hy2 hb2 ⊢
    have hlf := pts_len v.fst
    have hls := pts_len v.snd
    obtain ⟨ro, m3, g1, g2, g3⟩ := join (by' := 16) hg2 hx2 (by omega) (by omega) (by omega)
    have hy3 : RP m3 (n2 + 1) rb v.snd.pts := RP.keep' hy2 (by omega) (fun i hi => g3 i (by have := RP.lt hy2 hi; omega) (hya i hi))
    obtain ⟨rz, m4, g4, g5, g6⟩ := join (by' := 16) g2 hy3 (by omega) (by omega) (by rw [List.length_append]; omega)
    have hb4 : m4 n = some ⟨B.cs, true⟩ := by
      rw [g6 n (by omega) (fun hs => by have := g2.sn.2 n hs; omega), g3 n (by omega) (fun hs => by have := hg2.sn.2 n hs; omega)]
      exact hb2
    have hz := g5.sn.1
    obtain ⟨all, hall'⟩ : ∃ all, all = flat dn v ++ v.fst.pts ++ v.snd.pts := ⟨_, rfl⟩
    rw [← hall'] at hz
    have hhas : all.all B.has = true := by
      rw [hall', List.all_append, List.all_append, all_flat dn v hbp, all_fst hbp, all_snd hbp]; rfl
    have halen : all.length ≤ 1000000 := by rw [hall', List.length_append, List.length_append]; omega
    have hlen := Rd.len hz
    obtain ⟨Q, hQ⟩ : ∃ Q, Q = n2 + 1 + 1 := ⟨_, rfl⟩
    rw [← hQ] at hz
    have hnQ : n < Q := by omega
    have hlrs := Rd.len hg2.sn.1
    clear hya hall' g6 g5 g3 g2
    have key : ∀ (k i : Nat) (e : Nat → Reg) (m : Mem) (n' : Nat), i + k = all.length → Q ≤ n' → (∀ j, j < Q → m j = m4 j) → e 5 = .one (.ptr n 0) → e 47 = rz → e 48 = RI all.length → e 49 = RI i → e 1 = RI (dn : Int) → e 6 = rs →
        X TA L ⟨e, m, n'⟩ (fun x s' => x = .x 0 ∧ s'.e 1 = RI (dn : Int) ∧ s'.e 6 = rs) := by
      intro k
      induction k with
      | zero =>
        intro i e m n' hi hn hM h5 h47 h48 h49 h1 h6
        refine hX _ _ ?_
        have hlt : ¬ ((i : Int) < (all.length : Int)) := by omega
        simp only [l14_0, r14_9, h48, h49, hlt, go_sem, bne_iff_ne, Int.cast_ofNat_Int, ↓reduceIte, Nat.reduceEqDiff, Nat.reduceAdd, Nat.reduceMul, Nat.reduceLeDiff, Nat.reduceSub, Nat.reduceLT, Int.reduceToNat, Int.reduceLT, Int.reduceLE, reduceCtorEq, Nat.zero_add, Nat.add_zero, and_self, and_true, true_and, ne_eq, not_false_eq_true, not_true_eq_false, decide_true, decide_false, Bool.false_eq_true, Bool.not_true, Bool.not_false, Bool.true_and, Bool.and_true, Bool.or_false, Bool.false_or, Bool.and_self]
        exact ⟨h1, h6⟩
      | succ k ih =>
        intro i e m n' hi hn hM h5 h47 h48 h49 h1 h6
        refine hX _ _ ?_
        have hil : i < all.length := by omega
        have hlt : ((i : Int) < (all.length : Int)) := by omega
        have h00 : (0 : Int) ≤ (i : Int) := by omega
        obtain ⟨id, off, cap, hrz, hid, q⟩ := RP.sl hz hil
        have q' : rd m id (off + i * 2) 2 = some [I all[i].x, I all[i].y] := by unfold rd at q ⊢; rw [hM _ hid]; exact q
        have hb : m n = some ⟨B.cs, true⟩ := by rw [hM n hnQ]; exact hb4
        have hbr : rd m n 0 4 = some B.cs := by unfold rd; rw [hb]; rfl
        have hne : (n = n') = False := eq_false (by omega)
        have hh : B.has all[i] = true := List.all_eq_true.1 hhas _ (List.getElem_mem _)
        simp only [l14_0, r14_9, h48, h49, hlt, r14_10, h47, hrz, h00, Int.toNat_natCast, q', r14_11, h5, hne, hbr, go_sem, bne_iff_ne, Int.cast_ofNat_Int, ↓reduceIte, Nat.reduceEqDiff, Nat.reduceAdd, Nat.reduceMul, Nat.reduceLeDiff, Nat.reduceSub, Nat.reduceLT, Int.reduceToNat, Int.reduceLT, Int.reduceLE, reduceCtorEq, Nat.zero_add, Nat.add_zero, and_self, and_true, true_and, ne_eq, not_false_eq_true, not_true_eq_false, decide_true, decide_false, Bool.false_eq_true, Bool.not_true, Bool.not_false, Bool.true_and, Bool.and_true, Bool.or_false, Bool.false_or, Bool.and_self]
        refine R_callz (by first | (simp only [flats, Reg.flat, Cell.flat, List.all_cons, List.all_nil, Bool.and_self, go_sem, bne_iff_ne, Int.cast_ofNat_Int, ↓reduceIte, Nat.reduceEqDiff, Nat.reduceAdd, Nat.reduceMul, Nat.reduceLeDiff, Nat.reduceSub, Nat.reduceLT, Int.reduceToNat, Int.reduceLT, Int.reduceLE, reduceCtorEq, Nat.zero_add, Nat.add_zero, and_self, and_true, true_and, ne_eq, not_false_eq_true, not_true_eq_false, decide_true, decide_false, Bool.false_eq_true, Bool.not_true, Bool.not_false, Bool.true_and, Bool.and_true, Bool.or_false, Bool.false_or, Bool.and_self]; done) | rfl) ?_
        try simp only [go_sem, bne_iff_ne, Int.cast_ofNat_Int, ↓reduceIte, Nat.reduceEqDiff, Nat.reduceAdd, Nat.reduceMul, Nat.reduceLeDiff, Nat.reduceSub, Nat.reduceLT, Int.reduceToNat, Int.reduceLT, Int.reduceLE, reduceCtorEq, Nat.zero_add, Nat.add_zero, and_self, and_true, true_and, ne_eq, not_false_eq_true, not_true_eq_false, decide_true, decide_false, Bool.false_eq_true, Bool.not_true, Bool.not_false, Bool.true_and, Bool.and_true, Bool.or_false, Bool.false_or, Bool.and_self]
        refine Fn.mono (Has32 B all[i] _ _) ?_
        rintro _ _ _ rfl
        refine ⟨rfl, ?_⟩
        try simp only [hh, r14_13, h49, wr_nat (show i < 4294967296 by omega), go_sem, bne_iff_ne, Int.cast_ofNat_Int, ↓reduceIte, Nat.reduceEqDiff, Nat.reduceAdd, Nat.reduceMul, Nat.reduceLeDiff, Nat.reduceSub, Nat.reduceLT, Int.reduceToNat, Int.reduceLT, Int.reduceLE, reduceCtorEq, Nat.zero_add, Nat.add_zero, and_self, and_true, true_and, ne_eq, not_false_eq_true, not_true_eq_false, decide_true, decide_false, Bool.false_eq_true, Bool.not_true, Bool.not_false, Bool.true_and, Bool.and_true, Bool.or_false, Bool.false_or, Bool.and_self]
        refine ih (i + 1) _ _ _ (by omega) (by omega) ?_ ?_ ?_ ?_ ?_ ?_ ?_
        · intro j hj
          rw [upd_ne _ _ (by omega)]
          exact hM j hj
        · simp only [h5, go_sem, bne_iff_ne, Int.cast_ofNat_Int, ↓reduceIte, Nat.reduceEqDiff, Nat.reduceAdd, Nat.reduceMul, Nat.reduceLeDiff, Nat.reduceSub, Nat.reduceLT, Int.reduceToNat, Int.reduceLT, Int.reduceLE, reduceCtorEq, Nat.zero_add, Nat.add_zero, and_self, and_true, true_and, ne_eq, not_false_eq_true, not_true_eq_false, decide_true, decide_false, Bool.false_eq_true, Bool.not_true, Bool.not_false, Bool.true_and, Bool.and_true, Bool.or_false, Bool.false_or, Bool.and_self]
        · simp only [h47, hrz, go_sem, bne_iff_ne, Int.cast_ofNat_Int, ↓reduceIte, Nat.reduceEqDiff, Nat.reduceAdd, Nat.reduceMul, Nat.reduceLeDiff, Nat.reduceSub, Nat.reduceLT, Int.reduceToNat, Int.reduceLT, Int.reduceLE, reduceCtorEq, Nat.zero_add, Nat.add_zero, and_self, and_true, true_and, ne_eq, not_false_eq_true, not_true_eq_false, decide_true, decide_false, Bool.false_eq_true, Bool.not_true, Bool.not_false, Bool.true_and, Bool.and_true, Bool.or_false, Bool.false_or, Bool.and_self]
        · simp only [h48, go_sem, bne_iff_ne, Int.cast_ofNat_Int, ↓reduceIte, Nat.reduceEqDiff, Nat.reduceAdd, Nat.reduceMul, Nat.reduceLeDiff, Nat.reduceSub, Nat.reduceLT, Int.reduceToNat, Int.reduceLT, Int.reduceLE, reduceCtorEq, Nat.zero_add, Nat.add_zero, and_self, and_true, true_and, ne_eq, not_false_eq_true, not_true_eq_false, decide_true, decide_false, Bool.false_eq_true, Bool.not_true, Bool.not_false, Bool.true_and, Bool.and_true, Bool.or_false, Bool.false_or, Bool.and_self]
        · simp only [go_sem, bne_iff_ne, Int.cast_ofNat_Int, ↓reduceIte, Nat.reduceEqDiff, Nat.reduceAdd, Nat.reduceMul, Nat.reduceLeDiff, Nat.reduceSub, Nat.reduceLT, Int.reduceToNat, Int.reduceLT, Int.reduceLE, reduceCtorEq, Nat.zero_add, Nat.add_zero, and_self, and_true, true_and, ne_eq, not_false_eq_true, not_true_eq_false, decide_true, decide_false, Bool.false_eq_true, Bool.not_true, Bool.not_false, Bool.true_and, Bool.and_true, Bool.or_false, Bool.false_or, Bool.and_self]
        · simp only [h1, go_sem, bne_iff_ne, Int.cast_ofNat_Int, ↓reduceIte, Nat.reduceEqDiff, Nat.reduceAdd, Nat.reduceMul, Nat.reduceLeDiff, Nat.reduceSub, Nat.reduceLT, Int.reduceToNat, Int.reduceLT, Int.reduceLE, reduceCtorEq, Nat.zero_add, Nat.add_zero, and_self, and_true, true_and, ne_eq, not_false_eq_true, not_true_eq_false, decide_true, decide_false, Bool.false_eq_true, Bool.not_true, Bool.not_false, Bool.true_and, Bool.and_true, Bool.or_false, Bool.false_or, Bool.and_self]
        · simp only [h6, go_sem, bne_iff_ne, Int.cast_ofNat_Int, ↓reduceIte, Nat.reduceEqDiff, Nat.reduceAdd, Nat.reduceMul, Nat.reduceLeDiff, Nat.reduceSub, Nat.reduceLT, Int.reduceToNat, Int.reduceLT, Int.reduceLE, reduceCtorEq, Nat.zero_add, Nat.add_zero, and_self, and_true, true_and, ne_eq, not_false_eq_true, not_true_eq_false, decide_true, decide_false, Bool.false_eq_true, Bool.not_true, Bool.not_false, Bool.true_and, Bool.and_true, Bool.or_false, Bool.false_or, Bool.and_self]
    simp only [r14_8, g1, g4, hlen, ← hL, go_sem, bne_iff_ne, Int.cast_ofNat_Int, ↓reduceIte, Nat.reduceEqDiff, Nat.reduceAdd, Nat.reduceMul, Nat.reduceLeDiff, Nat.reduceSub, Nat.reduceLT, Int.reduceToNat, Int.reduceLT, Int.reduceLE, reduceCtorEq, Nat.zero_add, Nat.add_zero, and_self, and_true, true_and, ne_eq, not_false_eq_true, not_true_eq_false, decide_true, decide_false, Bool.false_eq_true, Bool.not_true, Bool.not_false, Bool.true_and, Bool.and_true, Bool.or_false, Bool.false_or, Bool.and_self]
    refine (key _ 0 _ _ _ (Nat.zero_add _) (by omega) (fun _ _ => rfl) ?_ ?_ ?_ ?_ ?_ ?_).mono ?_
    · simp only [go_sem, bne_iff_ne, Int.cast_ofNat_Int, ↓reduceIte, Nat.reduceEqDiff, Nat.reduceAdd, Nat.reduceMul, Nat.reduceLeDiff, Nat.reduceSub, Nat.reduceLT, Int.reduceToNat, Int.reduceLT, Int.reduceLE, reduceCtorEq, Nat.zero_add, Nat.add_zero, and_self, and_true, true_and, ne_eq, not_false_eq_true, not_true_eq_false, decide_true, decide_false, Bool.false_eq_true, Bool.not_true, Bool.not_false, Bool.true_and, Bool.and_true, Bool.or_false, Bool.false_or, Bool.and_self]
    · simp only [go_sem, bne_iff_ne, Int.cast_ofNat_Int, ↓reduceIte, Nat.reduceEqDiff, Nat.reduceAdd, Nat.reduceMul, Nat.reduceLeDiff, Nat.reduceSub, Nat.reduceLT, Int.reduceToNat, Int.reduceLT, Int.reduceLE, reduceCtorEq, Nat.zero_add, Nat.add_zero, and_self, and_true, true_and, ne_eq, not_false_eq_true, not_true_eq_false, decide_true, decide_false, Bool.false_eq_true, Bool.not_true, Bool.not_false, Bool.true_and, Bool.and_true, Bool.or_false, Bool.false_or, Bool.and_self]
    · simp only [go_sem, bne_iff_ne, Int.cast_ofNat_Int, ↓reduceIte, Nat.reduceEqDiff, Nat.reduceAdd, Nat.reduceMul, Nat.reduceLeDiff, Nat.reduceSub, Nat.reduceLT, Int.reduceToNat, Int.reduceLT, Int.reduceLE, reduceCtorEq, Nat.zero_add, Nat.add_zero, and_self, and_true, true_and, ne_eq, not_false_eq_true, not_true_eq_false, decide_true, decide_false, Bool.false_eq_true, Bool.not_true, Bool.not_false, Bool.true_and, Bool.and_true, Bool.or_false, Bool.false_or, Bool.and_self]
    · simp only [go_sem, bne_iff_ne, Int.cast_ofNat_Int, ↓reduceIte, Nat.reduceEqDiff, Nat.reduceAdd, Nat.reduceMul, Nat.reduceLeDiff, Nat.reduceSub, Nat.reduceLT, Int.reduceToNat, Int.reduceLT, Int.reduceLE, reduceCtorEq, Nat.zero_add, Nat.add_zero, and_self, and_true, true_and, ne_eq, not_false_eq_true, not_true_eq_false, decide_true, decide_false, Bool.false_eq_true, Bool.not_true, Bool.not_false, Bool.true_and, Bool.and_true, Bool.or_false, Bool.false_or, Bool.and_self]
    · simp only [go_sem, bne_iff_ne, Int.cast_ofNat_Int, ↓reduceIte, Nat.reduceEqDiff, Nat.reduceAdd, Nat.reduceMul, Nat.reduceLeDiff, Nat.reduceSub, Nat.reduceLT, Int.reduceToNat, Int.reduceLT, Int.reduceLE, reduceCtorEq, Nat.zero_add, Nat.add_zero, and_self, and_true, true_and, ne_eq, not_false_eq_true, not_true_eq_false, decide_true, decide_false, Bool.false_eq_true, Bool.not_true, Bool.not_false, Bool.true_and, Bool.and_true, Bool.or_false, Bool.false_or, Bool.and_self]
    · simp only [go_sem, bne_iff_ne, Int.cast_ofNat_Int, ↓reduceIte, Nat.reduceEqDiff, Nat.reduceAdd, Nat.reduceMul, Nat.reduceLeDiff, Nat.reduceSub, Nat.reduceLT, Int.reduceToNat, Int.reduceLT, Int.reduceLE, reduceCtorEq, Nat.zero_add, Nat.add_zero, and_self, and_true, true_and, ne_eq, not_false_eq_true, not_true_eq_false, decide_true, decide_false, Bool.false_eq_true, Bool.not_true, Bool.not_false, Bool.true_and, Bool.and_true, Bool.or_false, Bool.false_or, Bool.and_self]
    · rintro x s' ⟨rfl, h1, h6⟩
      simp only [r14_14, h1, h6, hlrs, bin_shl_small dn hdn, hfl, go_sem, bne_iff_ne, Int.cast_ofNat_Int, ↓reduceIte, Nat.reduceEqDiff, Nat.reduceAdd, Nat.reduceMul, Nat.reduceLeDiff, Nat.reduceSub, Nat.reduceLT, Int.reduceToNat, Int.reduceLT, Int.reduceLE, reduceCtorEq, Nat.zero_add, Nat.add_zero, and_self, and_true, true_and, ne_eq, not_false_eq_true, not_true_eq_false, decide_true, decide_false, Bool.false_eq_true, Bool.not_true, Bool.not_false, Bool.true_and, Bool.and_true, Bool.or_false, Bool.false_or, Bool.and_self]
      refine R_callz (by first | (simp only [flats, Reg.flat, Cell.flat, List.all_cons, List.all_nil, Bool.and_self, go_sem, bne_iff_ne, Int.cast_ofNat_Int, ↓reduceIte, Nat.reduceEqDiff, Nat.reduceAdd, Nat.reduceMul, Nat.reduceLeDiff, Nat.reduceSub, Nat.reduceLT, Int.reduceToNat, Int.reduceLT, Int.reduceLE, reduceCtorEq, Nat.zero_add, Nat.add_zero, and_self, and_true, true_and, ne_eq, not_false_eq_true, not_true_eq_false, decide_true, decide_false, Bool.false_eq_true, Bool.not_true, Bool.not_false, Bool.true_and, Bool.and_true, Bool.or_false, Bool.false_or, Bool.and_self]; done) | rfl) ?_
      try simp only [go_sem, bne_iff_ne, Int.cast_ofNat_Int, ↓reduceIte, Nat.reduceEqDiff, Nat.reduceAdd, Nat.reduceMul, Nat.reduceLeDiff, Nat.reduceSub, Nat.reduceLT, Int.reduceToNat, Int.reduceLT, Int.reduceLE, reduceCtorEq, Nat.zero_add, Nat.add_zero, and_self, and_true, true_and, ne_eq, not_false_eq_true, not_true_eq_false, decide_true, decide_false, Bool.false_eq_true, Bool.not_true, Bool.not_false, Bool.true_and, Bool.and_true, Bool.or_false, Bool.false_or, Bool.and_self]
      refine Fn.mono (awake37) ?_
      rintro _ _ _ rfl
      refine ⟨rfl, ?_⟩
      try simp only [go_sem, bne_iff_ne, Int.cast_ofNat_Int, ↓reduceIte, Nat.reduceEqDiff, Nat.reduceAdd, Nat.reduceMul, Nat.reduceLeDiff, Nat.reduceSub, Nat.reduceLT, Int.reduceToNat, Int.reduceLT, Int.reduceLE, reduceCtorEq, Nat.zero_add, Nat.add_zero, and_self, and_true, true_and, ne_eq, not_false_eq_true, not_true_eq_false, decide_true, decide_false, Bool.false_eq_true, Bool.not_true, Bool.not_false, Bool.true_and, Bool.and_true, Bool.or_false, Bool.false_or, Bool.and_self]

theorem rowL14 (hmix : Try.prog.follows .mixedOrders = true) (W : World) (v : Value)
    (h : v = .slice none 0 0 ∨ ∃ b o len cap vs, v = .slice (some ⟨b, o, none⟩) len cap ∧ b < W.heap.size ∧ len ≤ cap ∧ cap ≤ maxLen ∧ RowsOk [.int .i64, .int .i64] cap vs ∧ ∀ (i : Nat) (x : Value), vs[i]? = some x → W.cell? ⟨b, o + i, none⟩ = some x) (d : Int) (hd : IntKind.i64.min ≤ d ∧ d ≤ IntKind.i64.max) :
    Calls Try.prog 14 #[v, .int .i64 d] W (fun e w' => e = .returned (.bool true) ∧ Go.RowKit.Below W.heap.size W w') :=
  row_ptsL (fun l d r m n hl h => law14 l d r m n hl h) hmix W v h d hd
end Go.Proofs.Ytkneefkhggacmaa.Sy
