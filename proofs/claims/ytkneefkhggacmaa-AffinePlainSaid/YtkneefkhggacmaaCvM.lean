/- Curves: the law CurveFlats. Conditions: those that each theorem names. -/
import Derived.Test.YtkneefkhggacmaaCvI
import Derived.Test.YtkneefkhggacmaaCvL
import Derived.Test.YtkneefkhggacmaaSyQ
namespace Go.Proofs.Ytkneefkhggacmaa.Sy
open Go Go.Proofs
set_option linter.unusedSimpArgs false
set_option linter.unusedVariables false
attribute [local go_sem] R_nil R_mv R_pick R_alloc R_box R_build R_bslice R_load1 R_loadA R_store R_nilchk R_bin R_beq R_eqv R_eqnil R_un R_conv R_mkfn R_mkslice R_slS R_slA R_fadr R_fld R_iadrA R_iadrS R_idxA R_ext R_len R_lenC R_cap R_app R_cpy R_mn R_mx
  evalOp evO evOs upd_upd upd_at unfrz_at putE_some putE_none Then_some X_seq X_reg X_dreg X_ret X_skip X_exit X_block X_condK condK_bool Next_n Next_x Next_r Out_n Out_x Out_r Ret_n Ret_r
  bin_shr1 bin_add bin_sub bin_mul bin_lss bin_leq bin_gtr bin_geq bin_eql bin_neq un_not un_neg boolOf_b boolOf_tup R_guard Option.map_some evRes pack_one pack_two pack_three pack_none List.getD_cons_zero List.getD_cons_succ getD_nil
  Option.some.injEq exists_eq_left' Reg.cs? fillC setL List.set_cons_zero List.set_cons_succ List.length_cons List.length_nil rd_upd rdB wr List.drop_zero List.drop_succ_cons List.take_succ_cons List.take_zero List.getElem?_cons_zero List.getElem?_cons_succ
  ix Int.toNat_zero lenO_sl lenO_nil sn1 ns1 sn2 ns2 sn3 ns3 sn4 ns4 sn5 ns5 sn6 ns6 sn7 ns7 sn8 ns8 sn9 ns9 sn10 ns10 sn11 ns11 sn12 ns12 sk1_2 sk1_3 sk1_4 sk1_5 sk1_6 sk1_7 sk1_8 sk2_1 sk2_3 sk2_4 sk2_5 sk2_6 sk2_7 sk2_8 sk3_1 sk3_2 sk3_4 sk3_5 sk3_6 sk3_7 sk3_8 sk4_1 sk4_2 sk4_3 sk4_5 sk4_6 sk4_7 sk4_8 sk5_1 sk5_2 sk5_3 sk5_4 sk5_6 sk5_7 sk5_8 sk6_1 sk6_2 sk6_3 sk6_4 sk6_5 sk6_7 sk6_8 sk7_1 sk7_2 sk7_3 sk7_4 sk7_5 sk7_6 sk7_8 sk8_1 sk8_2 sk8_3 sk8_4 sk8_5 sk8_6 sk8_7

theorem flat_ne (d : Nat) (v : Cv) : flat d v ≠ [] := by
  intro h
  have := flat_length d v
  rw [h] at this
  have h2 : 0 < (2 : Nat) ^ d := Nat.two_pow_pos d
  simp at this
  omega
theorem snd_last (v : Cv) : v.snd.last = v.last := by cases v <;> rfl
theorem flat_last : ∀ (d : Nat) (v : Cv), (flat d v)[(flat d v).length - 1]? = some v.last
  | 0, v => rfl
  | d + 1, v => by
    have h := flat_last d v.snd
    have hl := flat_length d v.snd
    have hp : 0 < (2 : Nat) ^ d := Nat.two_pow_pos d
    rw [flat, List.length_append, List.getElem?_append_right (by omega)]
    rw [show (flat d v.fst).length + (flat d v.snd).length - 1 - (flat d v.fst).length = (flat d v.snd).length - 1 by omega, h, snd_last]

theorem law9 (l : List Pt) (d : Int) (r : Reg) (m : Mem) (n : Nat) (hr : RP m n r l) : Fn TA 9 [r, RI d] m n (fun r' _ _ => r' = RB true) := by
  refine Fn_of (fn := F9) rfl (by simp [F9]) ?_
  have hlen := Rd.len hr
  by_cases h100 : (100 : Int) < (l.length : Int)
  · simp only [F9, c9, r9_0, r9_1, hlen, h100, r9_2, go_sem, bne_iff_ne, Int.cast_ofNat_Int, ↓reduceIte, Nat.reduceEqDiff, Nat.reduceAdd, Nat.reduceMul, Nat.reduceLeDiff, Nat.reduceSub, Nat.reduceLT, Int.reduceToNat, Int.reduceLT, Int.reduceLE, reduceCtorEq, Nat.zero_add, Nat.add_zero, and_self, and_true, true_and, ne_eq, not_false_eq_true, not_true_eq_false, decide_true, decide_false, Bool.false_eq_true, Bool.not_true, Bool.not_false, Bool.true_and, Bool.and_true, Bool.or_false, Bool.false_or, Bool.and_self]
    refine R_callz (by first | (simp only [flats, Reg.flat, Cell.flat, List.all_cons, List.all_nil, Bool.and_self, go_sem, bne_iff_ne, Int.cast_ofNat_Int, ↓reduceIte, Nat.reduceEqDiff, Nat.reduceAdd, Nat.reduceMul, Nat.reduceLeDiff, Nat.reduceSub, Nat.reduceLT, Int.reduceToNat, Int.reduceLT, Int.reduceLE, reduceCtorEq, Nat.zero_add, Nat.add_zero, and_self, and_true, true_and, ne_eq, not_false_eq_true, not_true_eq_false, decide_true, decide_false, Bool.false_eq_true, Bool.not_true, Bool.not_false, Bool.true_and, Bool.and_true, Bool.or_false, Bool.false_or, Bool.and_self]; done) | rfl) ?_
    try simp only [go_sem, bne_iff_ne, Int.cast_ofNat_Int, ↓reduceIte, Nat.reduceEqDiff, Nat.reduceAdd, Nat.reduceMul, Nat.reduceLeDiff, Nat.reduceSub, Nat.reduceLT, Int.reduceToNat, Int.reduceLT, Int.reduceLE, reduceCtorEq, Nat.zero_add, Nat.add_zero, and_self, and_true, true_and, ne_eq, not_false_eq_true, not_true_eq_false, decide_true, decide_false, Bool.false_eq_true, Bool.not_true, Bool.not_false, Bool.true_and, Bool.and_true, Bool.or_false, Bool.false_or, Bool.and_self]
    refine Fn.mono (awake37) ?_
    rintro _ _ _ rfl
    refine ⟨rfl, ?_⟩
    try simp only [go_sem, bne_iff_ne, Int.cast_ofNat_Int, ↓reduceIte, Nat.reduceEqDiff, Nat.reduceAdd, Nat.reduceMul, Nat.reduceLeDiff, Nat.reduceSub, Nat.reduceLT, Int.reduceToNat, Int.reduceLT, Int.reduceLE, reduceCtorEq, Nat.zero_add, Nat.add_zero, and_self, and_true, true_and, ne_eq, not_false_eq_true, not_true_eq_false, decide_true, decide_false, Bool.false_eq_true, Bool.not_true, Bool.not_false, Bool.true_and, Bool.and_true, Bool.or_false, Bool.false_or, Bool.and_self]
  · simp only [F9, c9, r9_0, r9_1, hlen, h100, r9_3, go_sem, bne_iff_ne, Int.cast_ofNat_Int, ↓reduceIte, Nat.reduceEqDiff, Nat.reduceAdd, Nat.reduceMul, Nat.reduceLeDiff, Nat.reduceSub, Nat.reduceLT, Int.reduceToNat, Int.reduceLT, Int.reduceLE, reduceCtorEq, Nat.zero_add, Nat.add_zero, and_self, and_true, true_and, ne_eq, not_false_eq_true, not_true_eq_false, decide_true, decide_false, Bool.false_eq_true, Bool.not_true, Bool.not_false, Bool.true_and, Bool.and_true, Bool.or_false, Bool.false_or, Bool.and_self]
    refine R_callk ?_
    simp only [go_sem, bne_iff_ne, Int.cast_ofNat_Int, ↓reduceIte, Nat.reduceEqDiff, Nat.reduceAdd, Nat.reduceMul, Nat.reduceLeDiff, Nat.reduceSub, Nat.reduceLT, Int.reduceToNat, Int.reduceLT, Int.reduceLE, reduceCtorEq, Nat.zero_add, Nat.add_zero, and_self, and_true, true_and, ne_eq, not_false_eq_true, not_true_eq_false, decide_true, decide_false, Bool.false_eq_true, Bool.not_true, Bool.not_false, Bool.true_and, Bool.and_true, Bool.or_false, Bool.false_or, Bool.and_self]
    by_cases hno : ¬ (l.all inP = true ∧ (l.length = 3 ∨ l.length = 4)) ∨ d < 0 ∨ 6 < d
    · refine (Flat38no l r d (frz m) n (Rd.frz hr) (by omega) hno).mono ?_
      rintro _ m1 n1 ⟨rfl, hn1, _⟩
      have hmx : max n n1 = n1 := Nat.max_eq_right hn1
      have hr1 : RP (unfrz m n m1) n1 r l := RP.keep' hr hn1 (fun i hi => by rw [unfrz_at, if_pos (RP.lt hr hi)])
      simp only [hmx, r9_4, go_sem, bne_iff_ne, Int.cast_ofNat_Int, ↓reduceIte, Nat.reduceEqDiff, Nat.reduceAdd, Nat.reduceMul, Nat.reduceLeDiff, Nat.reduceSub, Nat.reduceLT, Int.reduceToNat, Int.reduceLT, Int.reduceLE, reduceCtorEq, Nat.zero_add, Nat.add_zero, and_self, and_true, true_and, ne_eq, not_false_eq_true, not_true_eq_false, decide_true, decide_false, Bool.false_eq_true, Bool.not_true, Bool.not_false, Bool.true_and, Bool.and_true, Bool.or_false, Bool.false_or, Bool.and_self]
      refine R_callq ?_
      simp only [go_sem, bne_iff_ne, Int.cast_ofNat_Int, ↓reduceIte, Nat.reduceEqDiff, Nat.reduceAdd, Nat.reduceMul, Nat.reduceLeDiff, Nat.reduceSub, Nat.reduceLT, Int.reduceToNat, Int.reduceLT, Int.reduceLE, reduceCtorEq, Nat.zero_add, Nat.add_zero, and_self, and_true, true_and, ne_eq, not_false_eq_true, not_true_eq_false, decide_true, decide_false, Bool.false_eq_true, Bool.not_true, Bool.not_false, Bool.true_and, Bool.and_true, Bool.or_false, Bool.false_or, Bool.and_self]
      refine (right39 r l _ n1 (Rd.frz hr1) (by omega)).mono ?_
      rintro _ _ _ rfl
      refine ⟨rfl, ?_⟩
      have fin : X TA (.seq (.reg r9_5) .ret) = X TA (.seq (.reg r9_5) .ret) := rfl
      rcases hc : (l.all inP && (decide (l.length = 3) || decide (l.length = 4))) with _ | _
      · simp only [r9_5, go_sem, bne_iff_ne, Int.cast_ofNat_Int, ↓reduceIte, Nat.reduceEqDiff, Nat.reduceAdd, Nat.reduceMul, Nat.reduceLeDiff, Nat.reduceSub, Nat.reduceLT, Int.reduceToNat, Int.reduceLT, Int.reduceLE, reduceCtorEq, Nat.zero_add, Nat.add_zero, and_self, and_true, true_and, ne_eq, not_false_eq_true, not_true_eq_false, decide_true, decide_false, Bool.false_eq_true, Bool.not_true, Bool.not_false, Bool.true_and, Bool.and_true, Bool.or_false, Bool.false_or, Bool.and_self]
        refine R_callz (by first | (simp only [flats, Reg.flat, Cell.flat, List.all_cons, List.all_nil, Bool.and_self, go_sem, bne_iff_ne, Int.cast_ofNat_Int, ↓reduceIte, Nat.reduceEqDiff, Nat.reduceAdd, Nat.reduceMul, Nat.reduceLeDiff, Nat.reduceSub, Nat.reduceLT, Int.reduceToNat, Int.reduceLT, Int.reduceLE, reduceCtorEq, Nat.zero_add, Nat.add_zero, and_self, and_true, true_and, ne_eq, not_false_eq_true, not_true_eq_false, decide_true, decide_false, Bool.false_eq_true, Bool.not_true, Bool.not_false, Bool.true_and, Bool.and_true, Bool.or_false, Bool.false_or, Bool.and_self]; done) | rfl) ?_
        try simp only [go_sem, bne_iff_ne, Int.cast_ofNat_Int, ↓reduceIte, Nat.reduceEqDiff, Nat.reduceAdd, Nat.reduceMul, Nat.reduceLeDiff, Nat.reduceSub, Nat.reduceLT, Int.reduceToNat, Int.reduceLT, Int.reduceLE, reduceCtorEq, Nat.zero_add, Nat.add_zero, and_self, and_true, true_and, ne_eq, not_false_eq_true, not_true_eq_false, decide_true, decide_false, Bool.false_eq_true, Bool.not_true, Bool.not_false, Bool.true_and, Bool.and_true, Bool.or_false, Bool.false_or, Bool.and_self]
        refine Fn.mono (awake37) ?_
        rintro _ _ _ rfl
        refine ⟨rfl, ?_⟩
        try simp only [go_sem, bne_iff_ne, Int.cast_ofNat_Int, ↓reduceIte, Nat.reduceEqDiff, Nat.reduceAdd, Nat.reduceMul, Nat.reduceLeDiff, Nat.reduceSub, Nat.reduceLT, Int.reduceToNat, Int.reduceLT, Int.reduceLE, reduceCtorEq, Nat.zero_add, Nat.add_zero, and_self, and_true, true_and, ne_eq, not_false_eq_true, not_true_eq_false, decide_true, decide_false, Bool.false_eq_true, Bool.not_true, Bool.not_false, Bool.true_and, Bool.and_true, Bool.or_false, Bool.false_or, Bool.and_self]
      · have hc' : l.all inP = true ∧ (l.length = 3 ∨ l.length = 4) := by simpa using hc
        rcases hno with h | h | h
        · exact absurd hc' h
        · simp only [h, r9_5, go_sem, bne_iff_ne, Int.cast_ofNat_Int, ↓reduceIte, Nat.reduceEqDiff, Nat.reduceAdd, Nat.reduceMul, Nat.reduceLeDiff, Nat.reduceSub, Nat.reduceLT, Int.reduceToNat, Int.reduceLT, Int.reduceLE, reduceCtorEq, Nat.zero_add, Nat.add_zero, and_self, and_true, true_and, ne_eq, not_false_eq_true, not_true_eq_false, decide_true, decide_false, Bool.false_eq_true, Bool.not_true, Bool.not_false, Bool.true_and, Bool.and_true, Bool.or_false, Bool.false_or, Bool.and_self]
          refine R_callz (by first | (simp only [flats, Reg.flat, Cell.flat, List.all_cons, List.all_nil, Bool.and_self, go_sem, bne_iff_ne, Int.cast_ofNat_Int, ↓reduceIte, Nat.reduceEqDiff, Nat.reduceAdd, Nat.reduceMul, Nat.reduceLeDiff, Nat.reduceSub, Nat.reduceLT, Int.reduceToNat, Int.reduceLT, Int.reduceLE, reduceCtorEq, Nat.zero_add, Nat.add_zero, and_self, and_true, true_and, ne_eq, not_false_eq_true, not_true_eq_false, decide_true, decide_false, Bool.false_eq_true, Bool.not_true, Bool.not_false, Bool.true_and, Bool.and_true, Bool.or_false, Bool.false_or, Bool.and_self]; done) | rfl) ?_
          try simp only [go_sem, bne_iff_ne, Int.cast_ofNat_Int, ↓reduceIte, Nat.reduceEqDiff, Nat.reduceAdd, Nat.reduceMul, Nat.reduceLeDiff, Nat.reduceSub, Nat.reduceLT, Int.reduceToNat, Int.reduceLT, Int.reduceLE, reduceCtorEq, Nat.zero_add, Nat.add_zero, and_self, and_true, true_and, ne_eq, not_false_eq_true, not_true_eq_false, decide_true, decide_false, Bool.false_eq_true, Bool.not_true, Bool.not_false, Bool.true_and, Bool.and_true, Bool.or_false, Bool.false_or, Bool.and_self]
          refine Fn.mono (awake37) ?_
          rintro _ _ _ rfl
          refine ⟨rfl, ?_⟩
          try simp only [go_sem, bne_iff_ne, Int.cast_ofNat_Int, ↓reduceIte, Nat.reduceEqDiff, Nat.reduceAdd, Nat.reduceMul, Nat.reduceLeDiff, Nat.reduceSub, Nat.reduceLT, Int.reduceToNat, Int.reduceLT, Int.reduceLE, reduceCtorEq, Nat.zero_add, Nat.add_zero, and_self, and_true, true_and, ne_eq, not_false_eq_true, not_true_eq_false, decide_true, decide_false, Bool.false_eq_true, Bool.not_true, Bool.not_false, Bool.true_and, Bool.and_true, Bool.or_false, Bool.false_or, Bool.and_self]
        · by_cases h0 : d < 0
          · simp only [h0, r9_5, go_sem, bne_iff_ne, Int.cast_ofNat_Int, ↓reduceIte, Nat.reduceEqDiff, Nat.reduceAdd, Nat.reduceMul, Nat.reduceLeDiff, Nat.reduceSub, Nat.reduceLT, Int.reduceToNat, Int.reduceLT, Int.reduceLE, reduceCtorEq, Nat.zero_add, Nat.add_zero, and_self, and_true, true_and, ne_eq, not_false_eq_true, not_true_eq_false, decide_true, decide_false, Bool.false_eq_true, Bool.not_true, Bool.not_false, Bool.true_and, Bool.and_true, Bool.or_false, Bool.false_or, Bool.and_self]
            refine R_callz (by first | (simp only [flats, Reg.flat, Cell.flat, List.all_cons, List.all_nil, Bool.and_self, go_sem, bne_iff_ne, Int.cast_ofNat_Int, ↓reduceIte, Nat.reduceEqDiff, Nat.reduceAdd, Nat.reduceMul, Nat.reduceLeDiff, Nat.reduceSub, Nat.reduceLT, Int.reduceToNat, Int.reduceLT, Int.reduceLE, reduceCtorEq, Nat.zero_add, Nat.add_zero, and_self, and_true, true_and, ne_eq, not_false_eq_true, not_true_eq_false, decide_true, decide_false, Bool.false_eq_true, Bool.not_true, Bool.not_false, Bool.true_and, Bool.and_true, Bool.or_false, Bool.false_or, Bool.and_self]; done) | rfl) ?_
            try simp only [go_sem, bne_iff_ne, Int.cast_ofNat_Int, ↓reduceIte, Nat.reduceEqDiff, Nat.reduceAdd, Nat.reduceMul, Nat.reduceLeDiff, Nat.reduceSub, Nat.reduceLT, Int.reduceToNat, Int.reduceLT, Int.reduceLE, reduceCtorEq, Nat.zero_add, Nat.add_zero, and_self, and_true, true_and, ne_eq, not_false_eq_true, not_true_eq_false, decide_true, decide_false, Bool.false_eq_true, Bool.not_true, Bool.not_false, Bool.true_and, Bool.and_true, Bool.or_false, Bool.false_or, Bool.and_self]
            refine Fn.mono (awake37) ?_
            rintro _ _ _ rfl
            refine ⟨rfl, ?_⟩
            try simp only [go_sem, bne_iff_ne, Int.cast_ofNat_Int, ↓reduceIte, Nat.reduceEqDiff, Nat.reduceAdd, Nat.reduceMul, Nat.reduceLeDiff, Nat.reduceSub, Nat.reduceLT, Int.reduceToNat, Int.reduceLT, Int.reduceLE, reduceCtorEq, Nat.zero_add, Nat.add_zero, and_self, and_true, true_and, ne_eq, not_false_eq_true, not_true_eq_false, decide_true, decide_false, Bool.false_eq_true, Bool.not_true, Bool.not_false, Bool.true_and, Bool.and_true, Bool.or_false, Bool.false_or, Bool.and_self]
          · simp only [h0, h, r9_5, go_sem, bne_iff_ne, Int.cast_ofNat_Int, ↓reduceIte, Nat.reduceEqDiff, Nat.reduceAdd, Nat.reduceMul, Nat.reduceLeDiff, Nat.reduceSub, Nat.reduceLT, Int.reduceToNat, Int.reduceLT, Int.reduceLE, reduceCtorEq, Nat.zero_add, Nat.add_zero, and_self, and_true, true_and, ne_eq, not_false_eq_true, not_true_eq_false, decide_true, decide_false, Bool.false_eq_true, Bool.not_true, Bool.not_false, Bool.true_and, Bool.and_true, Bool.or_false, Bool.false_or, Bool.and_self]
            refine R_callz (by first | (simp only [flats, Reg.flat, Cell.flat, List.all_cons, List.all_nil, Bool.and_self, go_sem, bne_iff_ne, Int.cast_ofNat_Int, ↓reduceIte, Nat.reduceEqDiff, Nat.reduceAdd, Nat.reduceMul, Nat.reduceLeDiff, Nat.reduceSub, Nat.reduceLT, Int.reduceToNat, Int.reduceLT, Int.reduceLE, reduceCtorEq, Nat.zero_add, Nat.add_zero, and_self, and_true, true_and, ne_eq, not_false_eq_true, not_true_eq_false, decide_true, decide_false, Bool.false_eq_true, Bool.not_true, Bool.not_false, Bool.true_and, Bool.and_true, Bool.or_false, Bool.false_or, Bool.and_self]; done) | rfl) ?_
            try simp only [go_sem, bne_iff_ne, Int.cast_ofNat_Int, ↓reduceIte, Nat.reduceEqDiff, Nat.reduceAdd, Nat.reduceMul, Nat.reduceLeDiff, Nat.reduceSub, Nat.reduceLT, Int.reduceToNat, Int.reduceLT, Int.reduceLE, reduceCtorEq, Nat.zero_add, Nat.add_zero, and_self, and_true, true_and, ne_eq, not_false_eq_true, not_true_eq_false, decide_true, decide_false, Bool.false_eq_true, Bool.not_true, Bool.not_false, Bool.true_and, Bool.and_true, Bool.or_false, Bool.false_or, Bool.and_self]
            refine Fn.mono (awake37) ?_
            rintro _ _ _ rfl
            refine ⟨rfl, ?_⟩
            try simp only [go_sem, bne_iff_ne, Int.cast_ofNat_Int, ↓reduceIte, Nat.reduceEqDiff, Nat.reduceAdd, Nat.reduceMul, Nat.reduceLeDiff, Nat.reduceSub, Nat.reduceLT, Int.reduceToNat, Int.reduceLT, Int.reduceLE, reduceCtorEq, Nat.zero_add, Nat.add_zero, and_self, and_true, true_and, ne_eq, not_false_eq_true, not_true_eq_false, decide_true, decide_false, Bool.false_eq_true, Bool.not_true, Bool.not_false, Bool.true_and, Bool.and_true, Bool.or_false, Bool.false_or, Bool.and_self]
    · have hyes : (l.all inP = true ∧ (l.length = 3 ∨ l.length = 4)) ∧ 0 ≤ d ∧ d ≤ 6 := by
        refine ⟨Classical.byContradiction fun h => hno (Or.inl h), ?_, ?_⟩
        · have : ¬ d < 0 := fun h => hno (Or.inr (Or.inl h)); omega
        · have : ¬ 6 < d := fun h => hno (Or.inr (Or.inr h)); omega
      obtain ⟨⟨hall, h34⟩, hd0, hd6⟩ := hyes
      obtain ⟨v, hv⟩ := toCv_some h34
      obtain ⟨hp, hin, _⟩ := toCv_pts hv
      subst hp
      rw [hin] at hall
      obtain ⟨dn, rfl⟩ := Int.eq_ofNat_of_zero_le hd0
      have hdn : dn ≤ 6 := by omega
      have hfl := flat_length dn v
      have hpw : (2 : Nat) ^ dn ≤ 64 := by
        have : (2 : Nat) ^ dn ≤ 2 ^ 6 := Nat.pow_le_pow_right (by omega) (by omega)
        omega
      have hpos : 0 < (2 : Nat) ^ dn := Nat.two_pow_pos dn
      refine (Flat38 v r dn (frz m) n (Rd.frz hr) hall hdn).mono ?_
      rintro _ m1 n1 ⟨rs, rfl, hn1, _, how⟩
      have hmx : max n n1 = n1 := Nat.max_eq_right hn1
      have hr1 : RP (unfrz m n m1) n1 r v.pts := RP.keep' hr hn1 (fun i hi => by rw [unfrz_at, if_pos (RP.lt hr hi)])
      have hs1 : RP (unfrz m n m1) n1 rs (flat dn v) := (Sn.unfrz (m := m) how.sn).1
      have hnd0 : ¬ ((dn : Int) < 0) := by omega
      have hnd6 : ¬ ((6 : Int) < (dn : Int)) := by omega
      simp only [hmx, r9_4, go_sem, bne_iff_ne, Int.cast_ofNat_Int, ↓reduceIte, Nat.reduceEqDiff, Nat.reduceAdd, Nat.reduceMul, Nat.reduceLeDiff, Nat.reduceSub, Nat.reduceLT, Int.reduceToNat, Int.reduceLT, Int.reduceLE, reduceCtorEq, Nat.zero_add, Nat.add_zero, and_self, and_true, true_and, ne_eq, not_false_eq_true, not_true_eq_false, decide_true, decide_false, Bool.false_eq_true, Bool.not_true, Bool.not_false, Bool.true_and, Bool.and_true, Bool.or_false, Bool.false_or, Bool.and_self]
      generalize unfrz m n m1 = M1 at hr1 hs1 ⊢
      refine R_callq ?_
      simp only [go_sem, bne_iff_ne, Int.cast_ofNat_Int, ↓reduceIte, Nat.reduceEqDiff, Nat.reduceAdd, Nat.reduceMul, Nat.reduceLeDiff, Nat.reduceSub, Nat.reduceLT, Int.reduceToNat, Int.reduceLT, Int.reduceLE, reduceCtorEq, Nat.zero_add, Nat.add_zero, and_self, and_true, true_and, ne_eq, not_false_eq_true, not_true_eq_false, decide_true, decide_false, Bool.false_eq_true, Bool.not_true, Bool.not_false, Bool.true_and, Bool.and_true, Bool.or_false, Bool.false_or, Bool.and_self]
      refine (right39 r v.pts _ n1 (Rd.frz hr1) (by omega)).mono ?_
      rintro _ _ _ rfl
      refine ⟨rfl, ?_⟩
      have hc : (v.pts.all inP && (decide (v.pts.length = 3) || decide (v.pts.length = 4))) = true := by
        rw [hin, hall]; simpa using h34
      rw [hc]
      simp only [hnd0, hnd6, r9_6, go_sem, bne_iff_ne, Int.cast_ofNat_Int, ↓reduceIte, Nat.reduceEqDiff, Nat.reduceAdd, Nat.reduceMul, Nat.reduceLeDiff, Nat.reduceSub, Nat.reduceLT, Int.reduceToNat, Int.reduceLT, Int.reduceLE, reduceCtorEq, Nat.zero_add, Nat.add_zero, and_self, and_true, true_and, ne_eq, not_false_eq_true, not_true_eq_false, decide_true, decide_false, Bool.false_eq_true, Bool.not_true, Bool.not_false, Bool.true_and, Bool.and_true, Bool.or_false, Bool.false_or, Bool.and_self]
      refine R_callk ?_
      simp only [go_sem, bne_iff_ne, Int.cast_ofNat_Int, ↓reduceIte, Nat.reduceEqDiff, Nat.reduceAdd, Nat.reduceMul, Nat.reduceLeDiff, Nat.reduceSub, Nat.reduceLT, Int.reduceToNat, Int.reduceLT, Int.reduceLE, reduceCtorEq, Nat.zero_add, Nat.add_zero, and_self, and_true, true_and, ne_eq, not_false_eq_true, not_true_eq_false, decide_true, decide_false, Bool.false_eq_true, Bool.not_true, Bool.not_false, Bool.true_and, Bool.and_true, Bool.or_false, Bool.false_or, Bool.and_self]
      refine (ref42 r v.pts (frz M1) n1 (Rd.frz hr1) (by omega)).mono ?_
      rintro rr m2 n2 ⟨hn2, _, ho2⟩
      have hmx2 : max n1 n2 = n2 := Nat.max_eq_right hn2
      have hr2 : RP (unfrz M1 n1 m2) n2 r v.pts := RP.keep' hr1 hn2 (fun i hi => by rw [unfrz_at, if_pos (RP.lt hr1 hi)])
      have hs2 : RP (unfrz M1 n1 m2) n2 rs (flat dn v) := RP.keep' hs1 hn2 (fun i hi => by rw [unfrz_at, if_pos (RP.lt hs1 hi)])
      have ho2 : RP (unfrz M1 n1 m2) n2 rr v.pts := (Sn.unfrz (m := M1) ho2.sn).1
      simp only [hmx2, go_sem, bne_iff_ne, Int.cast_ofNat_Int, ↓reduceIte, Nat.reduceEqDiff, Nat.reduceAdd, Nat.reduceMul, Nat.reduceLeDiff, Nat.reduceSub, Nat.reduceLT, Int.reduceToNat, Int.reduceLT, Int.reduceLE, reduceCtorEq, Nat.zero_add, Nat.add_zero, and_self, and_true, true_and, ne_eq, not_false_eq_true, not_true_eq_false, decide_true, decide_false, Bool.false_eq_true, Bool.not_true, Bool.not_false, Bool.true_and, Bool.and_true, Bool.or_false, Bool.false_or, Bool.and_self]
      generalize unfrz M1 n1 m2 = M2 at hr2 hs2 ho2 ⊢
      refine R_callk ?_
      simp only [go_sem, bne_iff_ne, Int.cast_ofNat_Int, ↓reduceIte, Nat.reduceEqDiff, Nat.reduceAdd, Nat.reduceMul, Nat.reduceLeDiff, Nat.reduceSub, Nat.reduceLT, Int.reduceToNat, Int.reduceLT, Int.reduceLE, reduceCtorEq, Nat.zero_add, Nat.add_zero, and_self, and_true, true_and, ne_eq, not_false_eq_true, not_true_eq_false, decide_true, decide_false, Bool.false_eq_true, Bool.not_true, Bool.not_false, Bool.true_and, Bool.and_true, Bool.or_false, Bool.false_or, Bool.and_self]
      refine (Flat41 dn v rr (frz M2) n2 hdn hall (Rd.frz ho2)).mono ?_
      rintro rf m3 n3 ⟨hn3, _, hg3⟩
      have hmx3 : max n2 n3 = n3 := Nat.max_eq_right hn3
      have hr3 : RP (unfrz M2 n2 m3) n3 r v.pts := RP.keep' hr2 hn3 (fun i hi => by rw [unfrz_at, if_pos (RP.lt hr2 hi)])
      have hs3 : RP (unfrz M2 n2 m3) n3 rs (flat dn v) := RP.keep' hs2 hn3 (fun i hi => by rw [unfrz_at, if_pos (RP.lt hs2 hi)])
      have hg3 : RP (unfrz M2 n2 m3) n3 rf (flat dn v) := (Sn.unfrz (m := M2) hg3.sn).1
      simp only [hmx3, go_sem, bne_iff_ne, Int.cast_ofNat_Int, ↓reduceIte, Nat.reduceEqDiff, Nat.reduceAdd, Nat.reduceMul, Nat.reduceLeDiff, Nat.reduceSub, Nat.reduceLT, Int.reduceToNat, Int.reduceLT, Int.reduceLE, reduceCtorEq, Nat.zero_add, Nat.add_zero, and_self, and_true, true_and, ne_eq, not_false_eq_true, not_true_eq_false, decide_true, decide_false, Bool.false_eq_true, Bool.not_true, Bool.not_false, Bool.true_and, Bool.and_true, Bool.or_false, Bool.false_or, Bool.and_self]
      generalize unfrz M2 n2 m3 = M3 at hr3 hs3 hg3 ⊢
      refine R_callq ?_
      simp only [go_sem, bne_iff_ne, Int.cast_ofNat_Int, ↓reduceIte, Nat.reduceEqDiff, Nat.reduceAdd, Nat.reduceMul, Nat.reduceLeDiff, Nat.reduceSub, Nat.reduceLT, Int.reduceToNat, Int.reduceLT, Int.reduceLE, reduceCtorEq, Nat.zero_add, Nat.add_zero, and_self, and_true, true_and, ne_eq, not_false_eq_true, not_true_eq_false, decide_true, decide_false, Bool.false_eq_true, Bool.not_true, Bool.not_false, Bool.true_and, Bool.and_true, Bool.or_false, Bool.false_or, Bool.and_self]
      refine (same40 rs rf (flat dn v) (flat dn v) _ n3 (Rd.frz hs3) (Rd.frz hg3) (by omega) (by omega) true (by simp)).mono ?_
      rintro _ _ _ rfl
      refine ⟨rfl, ?_⟩
      have hl1 := Rd.len hs3
      have hl2 := Rd.len hr3
      have hw1 : IntKind.i64.wrap (((flat dn v).length : Int) - 1) = (((flat dn v).length - 1 : Nat) : Int) := by rw [wr_eq (by omega) (by omega)]; omega
      have hw2 : IntKind.i64.wrap ((v.pts.length : Int) - 1) = ((v.pts.length - 1 : Nat) : Int) := by rw [wr_eq (by omega) (by omega)]; omega
      have z1 : (0 : Int) ≤ (((flat dn v).length - 1 : Nat) : Int) := by omega
      have z2 : (0 : Int) ≤ ((v.pts.length - 1 : Nat) : Int) := by omega
      have k1 : (((flat dn v).length - 1 : Nat) : Int) < ((flat dn v).length : Int) := by omega
      have k2 : ((v.pts.length - 1 : Nat) : Int) < (v.pts.length : Int) := by omega
      have i1 : (flat dn v).length - 1 < (flat dn v).length := by omega
      have i2 : v.pts.length - 1 < v.pts.length := by omega
      obtain ⟨ia, oa, ca, rfl, _, ra⟩ := RP.sl hs3 i1
      obtain ⟨ib, ob, cb, rfl, _, rb⟩ := RP.sl hr3 i2
      have e1 : (flat dn v)[(flat dn v).length - 1] = v.last := by have := flat_last dn v; rw [List.getElem?_eq_getElem i1] at this; exact Option.some.inj this
      have e2 : v.pts[v.pts.length - 1] = v.last := by have := pts_last v; rw [List.getElem?_eq_getElem i2] at this; exact Option.some.inj this
      rw [e1] at ra
      rw [e2] at rb
      simp only [hl1, hl2, hw1, hw2, z1, z2, k1, k2, Int.toNat_natCast, ra, rb, eqCells, beq_self_eq_true, Bool.bne_false, go_sem, bne_iff_ne, Int.cast_ofNat_Int, ↓reduceIte, Nat.reduceEqDiff, Nat.reduceAdd, Nat.reduceMul, Nat.reduceLeDiff, Nat.reduceSub, Nat.reduceLT, Int.reduceToNat, Int.reduceLT, Int.reduceLE, reduceCtorEq, Nat.zero_add, Nat.add_zero, and_self, and_true, true_and, ne_eq, not_false_eq_true, not_true_eq_false, decide_true, decide_false, Bool.false_eq_true, Bool.not_true, Bool.not_false, Bool.true_and, Bool.and_true, Bool.or_false, Bool.false_or, Bool.and_self]
      refine R_callz (by first | (simp only [flats, Reg.flat, Cell.flat, List.all_cons, List.all_nil, Bool.and_self, go_sem, bne_iff_ne, Int.cast_ofNat_Int, ↓reduceIte, Nat.reduceEqDiff, Nat.reduceAdd, Nat.reduceMul, Nat.reduceLeDiff, Nat.reduceSub, Nat.reduceLT, Int.reduceToNat, Int.reduceLT, Int.reduceLE, reduceCtorEq, Nat.zero_add, Nat.add_zero, and_self, and_true, true_and, ne_eq, not_false_eq_true, not_true_eq_false, decide_true, decide_false, Bool.false_eq_true, Bool.not_true, Bool.not_false, Bool.true_and, Bool.and_true, Bool.or_false, Bool.false_or, Bool.and_self]; done) | rfl) ?_
      try simp only [go_sem, bne_iff_ne, Int.cast_ofNat_Int, ↓reduceIte, Nat.reduceEqDiff, Nat.reduceAdd, Nat.reduceMul, Nat.reduceLeDiff, Nat.reduceSub, Nat.reduceLT, Int.reduceToNat, Int.reduceLT, Int.reduceLE, reduceCtorEq, Nat.zero_add, Nat.add_zero, and_self, and_true, true_and, ne_eq, not_false_eq_true, not_true_eq_false, decide_true, decide_false, Bool.false_eq_true, Bool.not_true, Bool.not_false, Bool.true_and, Bool.and_true, Bool.or_false, Bool.false_or, Bool.and_self]
      refine Fn.mono (awake37) ?_
      rintro _ _ _ rfl
      refine ⟨rfl, ?_⟩
      try simp only [go_sem, bne_iff_ne, Int.cast_ofNat_Int, ↓reduceIte, Nat.reduceEqDiff, Nat.reduceAdd, Nat.reduceMul, Nat.reduceLeDiff, Nat.reduceSub, Nat.reduceLT, Int.reduceToNat, Int.reduceLT, Int.reduceLE, reduceCtorEq, Nat.zero_add, Nat.add_zero, and_self, and_true, true_and, ne_eq, not_false_eq_true, not_true_eq_false, decide_true, decide_false, Bool.false_eq_true, Bool.not_true, Bool.not_false, Bool.true_and, Bool.and_true, Bool.or_false, Bool.false_or, Bool.and_self]

theorem rows_pts : ∀ {cap : Nat} {vs : List Value}, RowsOk [.int .i64, .int .i64] cap vs → ∃ ps : List Pt, ps.length = cap ∧ vs.map Cell.sc = encP ps
  | 0, vs, h => by
    have h : vs = [] := h
    subst h
    exact ⟨[], rfl, rfl⟩
  | cap + 1, vs, h => by
    unfold RowsOk at h
    rw [List.replicate_succ, List.flatten_cons] at h
    obtain ⟨x, _, rfl, _, y, r, rfl, _, h⟩ := h
    obtain ⟨ps, h1, h2⟩ := rows_pts (cap := cap) h
    exact ⟨⟨x, y⟩ :: ps, by simp [h1], by simp [encP, h2]⟩

/-- A slice of points that is handed in. -/
theorem openPts {W : World} {v : Value} (h : v = .slice none 0 0 ∨ ∃ b o len cap vs, v = .slice (some ⟨b, o, none⟩) len cap ∧ b < W.heap.size ∧ len ≤ cap ∧ cap ≤ maxLen ∧ RowsOk [.int .i64, .int .i64] cap vs ∧ ∀ (i : Nat) (x : Value), vs[i]? = some x → W.cell? ⟨b, o + i, none⟩ = some x) :
    ∃ (ρ : Loc) (n : Nat) (m : Mem) (r : Reg) (l : List Pt), MRel ρ n W m ∧ Held m ∧ RRel ρ n W r v ∧ RP m n r l := by
  rcases h with rfl | ⟨b, o, len, cap, vs, rfl, hb, hl, hc, hr, hcell⟩
  · exact ⟨fun _ => (0, 0), 0, fun _ => none, rnil, [], noMem _ _ _, held_none, ⟨rfl, rfl⟩, Or.inl ⟨rfl, rfl, rfl⟩⟩
  · obtain ⟨ps, hps, hvs⟩ := rows_pts hr
    have hlen : vs.length = cap * 2 := by
      have := congrArg List.length hvs
      rw [List.length_map, flatMap_len _ 2 cs2, hps] at this
      exact this
    refine ⟨_, _, _, .one (.sl 0 0 len none 2), ps.take len, addRow (noMem (fun _ => (0, 0)) 0 W) held_none hb hr hcell, held_upd held_none _ _, addSl hl hlen hcell, Or.inr ⟨0, 0, none, by rw [List.length_take, Nat.min_eq_left (by omega)], Nat.zero_lt_one, ?_⟩⟩
    have hl2 : (encP ps).length = ps.length * 2 := flatMap_len _ 2 cs2 ps
    unfold rd
    rw [upd_same, hvs]
    simp only [Nat.zero_add, List.drop_zero]
    rw [if_pos (by rw [hl2, List.length_take]; have := Nat.min_le_right len ps.length; omega)]
    have h3 : encP ps = encP (ps.take len) ++ encP (ps.drop len) := by rw [← List.flatMap_append, List.take_append_drop]
    have h4 : (encP (ps.take len)).length = (ps.take len).length * 2 := flatMap_len _ 2 cs2 _
    rw [h3, ← h4, List.take_left']
    rfl

theorem row_pts {f : Nat} (hlaw : ∀ (l : List Pt) (d : Int) (r : Reg) (m : Mem) (n : Nat), IntKind.i64.min ≤ d ∧ d ≤ IntKind.i64.max → RP m n r l → Fn TA f [r, RI d] m n (fun r' _ _ => r' = RB true)) (hmix : Try.prog.follows .mixedOrders = true) (W : World) (v : Value)
    (h : v = .slice none 0 0 ∨ ∃ b o len cap vs, v = .slice (some ⟨b, o, none⟩) len cap ∧ b < W.heap.size ∧ len ≤ cap ∧ cap ≤ maxLen ∧ RowsOk [.int .i64, .int .i64] cap vs ∧ ∀ (i : Nat) (x : Value), vs[i]? = some x → W.cell? ⟨b, o + i, none⟩ = some x) (d : Int) (hd : IntKind.i64.min ≤ d ∧ d ≤ IntKind.i64.max) :
    Calls Try.prog f #[v, .int .i64 d] W (fun e w' => e = .returned (.bool true) ∧ Go.RowKit.Below W.heap.size W w') := by
  obtain ⟨ρ, n, m, r, l, hm, hh, hrel, hrp⟩ := openPts h
  exact law_calls (ng := 0) hmix TA_ok (hlaw l d r m n hd hrp) hm (fun _ h => by omega) ⟨_, _, rfl, hrel, _, _, rfl, ⟨rfl, rfl⟩, rfl⟩ hh

theorem rowL9 (hmix : Try.prog.follows .mixedOrders = true) (W : World) (v : Value)
    (h : v = .slice none 0 0 ∨ ∃ b o len cap vs, v = .slice (some ⟨b, o, none⟩) len cap ∧ b < W.heap.size ∧ len ≤ cap ∧ cap ≤ maxLen ∧ RowsOk [.int .i64, .int .i64] cap vs ∧ ∀ (i : Nat) (x : Value), vs[i]? = some x → W.cell? ⟨b, o + i, none⟩ = some x) (d : Int) (hd : IntKind.i64.min ≤ d ∧ d ≤ IntKind.i64.max) :
    Calls Try.prog 9 #[v, .int .i64 d] W (fun e w' => e = .returned (.bool true) ∧ Go.RowKit.Below W.heap.size W w') :=
  row_pts (fun l d r m n _ h => law9 l d r m n h) hmix W v h d hd
end Go.Proofs.Ytkneefkhggacmaa.Sy
