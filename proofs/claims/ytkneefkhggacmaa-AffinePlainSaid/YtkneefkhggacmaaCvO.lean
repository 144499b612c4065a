/- Curves: the law CurveHalves. Conditions: those that each theorem names. -/
import Derived.Test.YtkneefkhggacmaaCvN
namespace Go.Proofs.Ytkneefkhggacmaa.Sy
open Go Go.Proofs
set_option linter.unusedSimpArgs false
set_option linter.unusedVariables false
attribute [local go_sem] R_nil R_mv R_pick R_alloc R_box R_build R_bslice R_load1 R_loadA R_store R_nilchk R_bin R_beq R_eqv R_eqnil R_un R_conv R_mkfn R_mkslice R_slS R_slA R_fadr R_fld R_iadrA R_iadrS R_idxA R_ext R_len R_lenC R_cap R_app R_cpy R_mn R_mx
  evalOp evO evOs upd_upd upd_at unfrz_at putE_some putE_none Then_some X_seq X_reg X_dreg X_ret X_skip X_exit X_block X_condK condK_bool Next_n Next_x Next_r Out_n Out_x Out_r Ret_n Ret_r
  bin_shr1 bin_add bin_sub bin_mul bin_lss bin_leq bin_gtr bin_geq bin_eql bin_neq un_not un_neg boolOf_b boolOf_tup R_guard Option.map_some evRes pack_one pack_two pack_three pack_none List.getD_cons_zero List.getD_cons_succ getD_nil
  Option.some.injEq exists_eq_left' Reg.cs? fillC setL List.set_cons_zero List.set_cons_succ List.length_cons List.length_nil rd_upd rdB wr List.drop_zero List.drop_succ_cons List.take_succ_cons List.take_zero List.getElem?_cons_zero List.getElem?_cons_succ
  ix Int.toNat_zero lenO_sl lenO_nil sn1 ns1 sn2 ns2 sn3 ns3 sn4 ns4 sn5 ns5 sn6 ns6 sn7 ns7 sn8 ns8 sn9 ns9 sn10 ns10 sn11 ns11 sn12 ns12 sk1_2 sk1_3 sk1_4 sk1_5 sk1_6 sk1_7 sk1_8 sk2_1 sk2_3 sk2_4 sk2_5 sk2_6 sk2_7 sk2_8 sk3_1 sk3_2 sk3_4 sk3_5 sk3_6 sk3_7 sk3_8 sk4_1 sk4_2 sk4_3 sk4_5 sk4_6 sk4_7 sk4_8 sk5_1 sk5_2 sk5_3 sk5_4 sk5_6 sk5_7 sk5_8 sk6_1 sk6_2 sk6_3 sk6_4 sk6_5 sk6_7 sk6_8 sk7_1 sk7_2 sk7_3 sk7_4 sk7_5 sk7_6 sk7_8 sk8_1 sk8_2 sk8_3 sk8_4 sk8_5 sk8_6 sk8_7

theorem fst_snd (v : Cv) : v.fst.last = v.snd.pts[0]'(by cases v <;> simp [Cv.snd, Cv.pts]) := by cases v <;> rfl

theorem law12 (l : List Pt) (r : Reg) (m : Mem) (n : Nat) (hr : RP m n r l) : Fn TA 12 [r] m n (fun r' _ _ => r' = RB true) := by
  refine Fn_of (fn := F12) rfl (by simp [F12]) ?_
  have hlen := Rd.len hr
  by_cases h100 : (100 : Int) < (l.length : Int)
  · simp only [F12, c12, r12_0, r12_1, hlen, h100, r12_2, go_sem, bne_iff_ne, Int.cast_ofNat_Int, ↓reduceIte, Nat.reduceEqDiff, Nat.reduceAdd, Nat.reduceMul, Nat.reduceLeDiff, Nat.reduceSub, Nat.reduceLT, Int.reduceToNat, Int.reduceLT, Int.reduceLE, reduceCtorEq, Nat.zero_add, Nat.add_zero, and_self, and_true, true_and, ne_eq, not_false_eq_true, not_true_eq_false, decide_true, decide_false, Bool.false_eq_true, Bool.not_true, Bool.not_false, Bool.true_and, Bool.and_true, Bool.or_false, Bool.false_or, Bool.and_self]
    refine R_callz (by first | (simp only [flats, Reg.flat, Cell.flat, List.all_cons, List.all_nil, Bool.and_self, go_sem, bne_iff_ne, Int.cast_ofNat_Int, ↓reduceIte, Nat.reduceEqDiff, Nat.reduceAdd, Nat.reduceMul, Nat.reduceLeDiff, Nat.reduceSub, Nat.reduceLT, Int.reduceToNat, Int.reduceLT, Int.reduceLE, reduceCtorEq, Nat.zero_add, Nat.add_zero, and_self, and_true, true_and, ne_eq, not_false_eq_true, not_true_eq_false, decide_true, decide_false, Bool.false_eq_true, Bool.not_true, Bool.not_false, Bool.true_and, Bool.and_true, Bool.or_false, Bool.false_or, Bool.and_self]; done) | rfl) ?_
    try simp only [go_sem, bne_iff_ne, Int.cast_ofNat_Int, ↓reduceIte, Nat.reduceEqDiff, Nat.reduceAdd, Nat.reduceMul, Nat.reduceLeDiff, Nat.reduceSub, Nat.reduceLT, Int.reduceToNat, Int.reduceLT, Int.reduceLE, reduceCtorEq, Nat.zero_add, Nat.add_zero, and_self, and_true, true_and, ne_eq, not_false_eq_true, not_true_eq_false, decide_true, decide_false, Bool.false_eq_true, Bool.not_true, Bool.not_false, Bool.true_and, Bool.and_true, Bool.or_false, Bool.false_or, Bool.and_self]
    refine Fn.mono (awake37) ?_
    rintro _ _ _ rfl
    refine ⟨rfl, ?_⟩
    try simp only [go_sem, bne_iff_ne, Int.cast_ofNat_Int, ↓reduceIte, Nat.reduceEqDiff, Nat.reduceAdd, Nat.reduceMul, Nat.reduceLeDiff, Nat.reduceSub, Nat.reduceLT, Int.reduceToNat, Int.reduceLT, Int.reduceLE, reduceCtorEq, Nat.zero_add, Nat.add_zero, and_self, and_true, true_and, ne_eq, not_false_eq_true, not_true_eq_false, decide_true, decide_false, Bool.false_eq_true, Bool.not_true, Bool.not_false, Bool.true_and, Bool.and_true, Bool.or_false, Bool.false_or, Bool.and_self]
  · simp only [F12, c12, r12_0, r12_1, r12_3]
    simp only [hlen, h100, go_sem, bne_iff_ne, Int.cast_ofNat_Int, ↓reduceIte, Nat.reduceEqDiff, Nat.reduceAdd, Nat.reduceMul, Nat.reduceLeDiff, Nat.reduceSub, Nat.reduceLT, Int.reduceToNat, Int.reduceLT, Int.reduceLE, reduceCtorEq, Nat.zero_add, Nat.add_zero, and_self, and_true, true_and, ne_eq, not_false_eq_true, not_true_eq_false, decide_true, decide_false, Bool.false_eq_true, Bool.not_true, Bool.not_false, Bool.true_and, Bool.and_true, Bool.or_false, Bool.false_or, Bool.and_self]
    refine R_callk ?_
    simp only [evOs, evO]
    simp only [go_sem, bne_iff_ne, Int.cast_ofNat_Int, ↓reduceIte, Nat.reduceEqDiff, Nat.reduceAdd, Nat.reduceMul, Nat.reduceLeDiff, Nat.reduceSub, Nat.reduceLT, Int.reduceToNat, Int.reduceLT, Int.reduceLE, reduceCtorEq, Nat.zero_add, Nat.add_zero, and_self, and_true, true_and, ne_eq, not_false_eq_true, not_true_eq_false, decide_true, decide_false, Bool.false_eq_true, Bool.not_true, Bool.not_false, Bool.true_and, Bool.and_true, Bool.or_false, Bool.false_or, Bool.and_self]
    refine (ref42 r l (frz m) n (Rd.frz hr) (by omega)).mono ?_
    rintro rw m1 n1 ⟨hn1, _, ho1⟩
    have hmx : max n n1 = n1 := Nat.max_eq_right hn1
    have hr1 : RP (unfrz m n m1) n1 r l := RP.keep' hr hn1 (fun i hi => by rw [unfrz_at, if_pos (RP.lt hr hi)])
    have hw1 : RP (unfrz m n m1) n1 rw l := (Sn.unfrz (m := m) ho1.sn).1
    rw [hmx]
    generalize unfrz m n m1 = M1 at hr1 hw1 ⊢
    simp only [r12_4, go_sem, bne_iff_ne, Int.cast_ofNat_Int, ↓reduceIte, Nat.reduceEqDiff, Nat.reduceAdd, Nat.reduceMul, Nat.reduceLeDiff, Nat.reduceSub, Nat.reduceLT, Int.reduceToNat, Int.reduceLT, Int.reduceLE, reduceCtorEq, Nat.zero_add, Nat.add_zero, and_self, and_true, true_and, ne_eq, not_false_eq_true, not_true_eq_false, decide_true, decide_false, Bool.false_eq_true, Bool.not_true, Bool.not_false, Bool.true_and, Bool.and_true, Bool.or_false, Bool.false_or, Bool.and_self]
    refine R_callk ?_
    by_cases hyes : l.all inP = true ∧ (l.length = 3 ∨ l.length = 4)
    · obtain ⟨hall, h34⟩ := hyes
      obtain ⟨v, hv⟩ := toCv_some h34
      obtain ⟨hp, hin, _⟩ := toCv_pts hv
      subst hp
      rw [hin] at hall
      refine (Halves45 v r (frz M1) n1 (Rd.frz hr1) hall).mono ?_
      rintro _ m2 n2 ⟨ra, rb, rfl, hn2, _, ha, hb⟩
      have hmx2 : max n1 n2 = n2 := Nat.max_eq_right hn2
      have hr2 : RP (unfrz M1 n1 m2) n2 r v.pts := RP.keep' hr1 hn2 (fun i hi => by rw [unfrz_at, if_pos (RP.lt hr1 hi)])
      have hw2 : RP (unfrz M1 n1 m2) n2 rw v.pts := RP.keep' hw1 hn2 (fun i hi => by rw [unfrz_at, if_pos (RP.lt hw1 hi)])
      have ha2 : RP (unfrz M1 n1 m2) n2 ra v.fst.pts := (Sn.unfrz (m := M1) ha.sn).1
      have hb2 : RP (unfrz M1 n1 m2) n2 rb v.snd.pts := (Sn.unfrz (m := M1) hb.sn).1
      rw [hmx2]
      generalize unfrz M1 n1 m2 = M2 at hr2 hw2 ha2 hb2 ⊢
      simp only [r12_5, go_sem, bne_iff_ne, Int.cast_ofNat_Int, ↓reduceIte, Nat.reduceEqDiff, Nat.reduceAdd, Nat.reduceMul, Nat.reduceLeDiff, Nat.reduceSub, Nat.reduceLT, Int.reduceToNat, Int.reduceLT, Int.reduceLE, reduceCtorEq, Nat.zero_add, Nat.add_zero, and_self, and_true, true_and, ne_eq, not_false_eq_true, not_true_eq_false, decide_true, decide_false, Bool.false_eq_true, Bool.not_true, Bool.not_false, Bool.true_and, Bool.and_true, Bool.or_false, Bool.false_or, Bool.and_self]
      refine R_callq ?_
      simp only [go_sem, bne_iff_ne, Int.cast_ofNat_Int, ↓reduceIte, Nat.reduceEqDiff, Nat.reduceAdd, Nat.reduceMul, Nat.reduceLeDiff, Nat.reduceSub, Nat.reduceLT, Int.reduceToNat, Int.reduceLT, Int.reduceLE, reduceCtorEq, Nat.zero_add, Nat.add_zero, and_self, and_true, true_and, ne_eq, not_false_eq_true, not_true_eq_false, decide_true, decide_false, Bool.false_eq_true, Bool.not_true, Bool.not_false, Bool.true_and, Bool.and_true, Bool.or_false, Bool.false_or, Bool.and_self]
      refine (same40 r rw v.pts v.pts _ n2 (Rd.frz hr2) (Rd.frz hw2) (by omega) (by omega) true (by simp)).mono ?_
      rintro _ _ _ rfl
      refine ⟨rfl, ?_⟩
      simp only [r12_7, go_sem, bne_iff_ne, Int.cast_ofNat_Int, ↓reduceIte, Nat.reduceEqDiff, Nat.reduceAdd, Nat.reduceMul, Nat.reduceLeDiff, Nat.reduceSub, Nat.reduceLT, Int.reduceToNat, Int.reduceLT, Int.reduceLE, reduceCtorEq, Nat.zero_add, Nat.add_zero, and_self, and_true, true_and, ne_eq, not_false_eq_true, not_true_eq_false, decide_true, decide_false, Bool.false_eq_true, Bool.not_true, Bool.not_false, Bool.true_and, Bool.and_true, Bool.or_false, Bool.false_or, Bool.and_self]
      refine R_callq ?_
      simp only [go_sem, bne_iff_ne, Int.cast_ofNat_Int, ↓reduceIte, Nat.reduceEqDiff, Nat.reduceAdd, Nat.reduceMul, Nat.reduceLeDiff, Nat.reduceSub, Nat.reduceLT, Int.reduceToNat, Int.reduceLT, Int.reduceLE, reduceCtorEq, Nat.zero_add, Nat.add_zero, and_self, and_true, true_and, ne_eq, not_false_eq_true, not_true_eq_false, decide_true, decide_false, Bool.false_eq_true, Bool.not_true, Bool.not_false, Bool.true_and, Bool.and_true, Bool.or_false, Bool.false_or, Bool.and_self]
      refine (right39 r v.pts _ n2 (Rd.frz hr2) (by omega)).mono ?_
      rintro _ _ _ rfl
      refine ⟨rfl, ?_⟩
      have hc : (v.pts.all inP && (decide (v.pts.length = 3) || decide (v.pts.length = 4))) = true := by
        rw [hin, hall]; simpa using h34
      rw [hc]
      simp only [r12_9, go_sem, bne_iff_ne, Int.cast_ofNat_Int, ↓reduceIte, Nat.reduceEqDiff, Nat.reduceAdd, Nat.reduceMul, Nat.reduceLeDiff, Nat.reduceSub, Nat.reduceLT, Int.reduceToNat, Int.reduceLT, Int.reduceLE, reduceCtorEq, Nat.zero_add, Nat.add_zero, and_self, and_true, true_and, ne_eq, not_false_eq_true, not_true_eq_false, decide_true, decide_false, Bool.false_eq_true, Bool.not_true, Bool.not_false, Bool.true_and, Bool.and_true, Bool.or_false, Bool.false_or, Bool.and_self]
      refine R_callk ?_
      simp only [go_sem, bne_iff_ne, Int.cast_ofNat_Int, ↓reduceIte, Nat.reduceEqDiff, Nat.reduceAdd, Nat.reduceMul, Nat.reduceLeDiff, Nat.reduceSub, Nat.reduceLT, Int.reduceToNat, Int.reduceLT, Int.reduceLE, reduceCtorEq, Nat.zero_add, Nat.add_zero, and_self, and_true, true_and, ne_eq, not_false_eq_true, not_true_eq_false, decide_true, decide_false, Bool.false_eq_true, Bool.not_true, Bool.not_false, Bool.true_and, Bool.and_true, Bool.or_false, Bool.false_or, Bool.and_self]
      refine (Halves46 rw v.pts (frz M2) n2 (Rd.frz hw2) (by omega) (pts_in hall)).mono ?_
      rintro _ m3 n3 ⟨rx, ry, rfl, hn3, _, hx, hy⟩
      rw [firsts_cv] at hx
      rw [lasts_cv] at hy
      have hmx3 : max n2 n3 = n3 := Nat.max_eq_right hn3
      have hr3 : RP (unfrz M2 n2 m3) n3 r v.pts := RP.keep' hr2 hn3 (fun i hi => by rw [unfrz_at, if_pos (RP.lt hr2 hi)])
      have hw3 : RP (unfrz M2 n2 m3) n3 rw v.pts := RP.keep' hw2 hn3 (fun i hi => by rw [unfrz_at, if_pos (RP.lt hw2 hi)])
      have ha3 : RP (unfrz M2 n2 m3) n3 ra v.fst.pts := RP.keep' ha2 hn3 (fun i hi => by rw [unfrz_at, if_pos (RP.lt ha2 hi)])
      have hb3 : RP (unfrz M2 n2 m3) n3 rb v.snd.pts := RP.keep' hb2 hn3 (fun i hi => by rw [unfrz_at, if_pos (RP.lt hb2 hi)])
      have hx3 : RP (unfrz M2 n2 m3) n3 rx v.fst.pts := (hx.unfrz (m := M2)).1
      have hy3 : RP (unfrz M2 n2 m3) n3 ry v.snd.pts := (hy.unfrz (m := M2)).1
      rw [hmx3]
      generalize unfrz M2 n2 m3 = M3 at hr3 hw3 ha3 hb3 hx3 hy3 ⊢
      have i0 : 0 < v.pts.length := by omega
      have i1 : 1 < v.pts.length := by omega
      have p0 : inP v.pts[0] = true := List.all_eq_true.1 (pts_in hall) _ (List.getElem_mem _)
      have p1 : inP v.pts[1] = true := List.all_eq_true.1 (pts_in hall) _ (List.getElem_mem _)
      have hL0 : (0 : Int) < (v.pts.length : Int) := by omega
      have hL1 : (1 : Int) < (v.pts.length : Int) := by omega
      obtain ⟨id, off, cap, rfl, hid, q0⟩ := RP.sl hr3 i0
      obtain ⟨_, _, _, he, _, q1⟩ := RP.sl hr3 i1
      cases he
      obtain ⟨idw, offw, capw, rfl, hidw, u0⟩ := RP.sl hw3 i0
      obtain ⟨_, _, _, he, _, u1⟩ := RP.sl hw3 i1
      cases he
      rw [Nat.zero_mul, Nat.add_zero] at q0 u0
      rw [Nat.one_mul] at q1 u1
      have tn1 : (1 : Int).toNat = 1 := rfl
      have le1 : (0 : Int) ≤ 1 := by decide
      simp only [r12_10, hL0, hL1, Int.le_refl, tn1, le1, q0, q1, go_sem, bne_iff_ne, Int.cast_ofNat_Int, ↓reduceIte, Nat.reduceEqDiff, Nat.reduceAdd, Nat.reduceMul, Nat.reduceLeDiff, Nat.reduceSub, Nat.reduceLT, Int.reduceToNat, Int.reduceLT, Int.reduceLE, reduceCtorEq, Nat.zero_add, Nat.add_zero, and_self, and_true, true_and, ne_eq, not_false_eq_true, not_true_eq_false, decide_true, decide_false, Bool.false_eq_true, Bool.not_true, Bool.not_false, Bool.true_and, Bool.and_true, Bool.or_false, Bool.false_or, Bool.and_self]
      refine R_callz (by first | (simp only [flats, Reg.flat, Cell.flat, List.all_cons, List.all_nil, Bool.and_self, go_sem, bne_iff_ne, Int.cast_ofNat_Int, ↓reduceIte, Nat.reduceEqDiff, Nat.reduceAdd, Nat.reduceMul, Nat.reduceLeDiff, Nat.reduceSub, Nat.reduceLT, Int.reduceToNat, Int.reduceLT, Int.reduceLE, reduceCtorEq, Nat.zero_add, Nat.add_zero, and_self, and_true, true_and, ne_eq, not_false_eq_true, not_true_eq_false, decide_true, decide_false, Bool.false_eq_true, Bool.not_true, Bool.not_false, Bool.true_and, Bool.and_true, Bool.or_false, Bool.false_or, Bool.and_self]; done) | rfl) ?_
      try simp only [go_sem, bne_iff_ne, Int.cast_ofNat_Int, ↓reduceIte, Nat.reduceEqDiff, Nat.reduceAdd, Nat.reduceMul, Nat.reduceLeDiff, Nat.reduceSub, Nat.reduceLT, Int.reduceToNat, Int.reduceLT, Int.reduceLE, reduceCtorEq, Nat.zero_add, Nat.add_zero, and_self, and_true, true_and, ne_eq, not_false_eq_true, not_true_eq_false, decide_true, decide_false, Bool.false_eq_true, Bool.not_true, Bool.not_false, Bool.true_and, Bool.and_true, Bool.or_false, Bool.false_or, Bool.and_self]
      refine Fn.mono (Mid v.pts[0] v.pts[1] p0 p1 _ _) ?_
      rintro _ _ _ rfl
      refine ⟨rfl, ?_⟩
      try simp only [r12_11, hL0, hL1, Int.le_refl, tn1, le1, lt0 hidw, u0, u1, go_sem, bne_iff_ne, Int.cast_ofNat_Int, ↓reduceIte, Nat.reduceEqDiff, Nat.reduceAdd, Nat.reduceMul, Nat.reduceLeDiff, Nat.reduceSub, Nat.reduceLT, Int.reduceToNat, Int.reduceLT, Int.reduceLE, reduceCtorEq, Nat.zero_add, Nat.add_zero, and_self, and_true, true_and, ne_eq, not_false_eq_true, not_true_eq_false, decide_true, decide_false, Bool.false_eq_true, Bool.not_true, Bool.not_false, Bool.true_and, Bool.and_true, Bool.or_false, Bool.false_or, Bool.and_self]
      refine R_callz (by first | (simp only [flats, Reg.flat, Cell.flat, List.all_cons, List.all_nil, Bool.and_self, go_sem, bne_iff_ne, Int.cast_ofNat_Int, ↓reduceIte, Nat.reduceEqDiff, Nat.reduceAdd, Nat.reduceMul, Nat.reduceLeDiff, Nat.reduceSub, Nat.reduceLT, Int.reduceToNat, Int.reduceLT, Int.reduceLE, reduceCtorEq, Nat.zero_add, Nat.add_zero, and_self, and_true, true_and, ne_eq, not_false_eq_true, not_true_eq_false, decide_true, decide_false, Bool.false_eq_true, Bool.not_true, Bool.not_false, Bool.true_and, Bool.and_true, Bool.or_false, Bool.false_or, Bool.and_self]; done) | rfl) ?_
      try simp only [go_sem, bne_iff_ne, Int.cast_ofNat_Int, ↓reduceIte, Nat.reduceEqDiff, Nat.reduceAdd, Nat.reduceMul, Nat.reduceLeDiff, Nat.reduceSub, Nat.reduceLT, Int.reduceToNat, Int.reduceLT, Int.reduceLE, reduceCtorEq, Nat.zero_add, Nat.add_zero, and_self, and_true, true_and, ne_eq, not_false_eq_true, not_true_eq_false, decide_true, decide_false, Bool.false_eq_true, Bool.not_true, Bool.not_false, Bool.true_and, Bool.and_true, Bool.or_false, Bool.false_or, Bool.and_self]
      refine Fn.mono (Mid48 v.pts[0] v.pts[1] p0 p1 _ _) ?_
      rintro _ _ _ rfl
      refine ⟨rfl, ?_⟩
      try simp only [r12_12, go_sem, bne_iff_ne, Int.cast_ofNat_Int, ↓reduceIte, Nat.reduceEqDiff, Nat.reduceAdd, Nat.reduceMul, Nat.reduceLeDiff, Nat.reduceSub, Nat.reduceLT, Int.reduceToNat, Int.reduceLT, Int.reduceLE, reduceCtorEq, Nat.zero_add, Nat.add_zero, and_self, and_true, true_and, ne_eq, not_false_eq_true, not_true_eq_false, decide_true, decide_false, Bool.false_eq_true, Bool.not_true, Bool.not_false, Bool.true_and, Bool.and_true, Bool.or_false, Bool.false_or, Bool.and_self]
      have hkeep : ∀ (A B : Option Blk) (i : Nat), i < n3 → upd (upd M3 n3 A) (n3 + 1) B i = M3 i := fun A B i hi => by simp only [lt0 hi, lt1 hi, go_sem, bne_iff_ne, Int.cast_ofNat_Int, ↓reduceIte, Nat.reduceEqDiff, Nat.reduceAdd, Nat.reduceMul, Nat.reduceLeDiff, Nat.reduceSub, Nat.reduceLT, Int.reduceToNat, Int.reduceLT, Int.reduceLE, reduceCtorEq, Nat.zero_add, Nat.add_zero, and_self, and_true, true_and, ne_eq, not_false_eq_true, not_true_eq_false, decide_true, decide_false, Bool.false_eq_true, Bool.not_true, Bool.not_false, Bool.true_and, Bool.and_true, Bool.or_false, Bool.false_or, Bool.and_self]
      have ha4 : ∀ (A B : Option Blk), RP (upd (upd M3 n3 A) (n3 + 1) B) (n3 + 1 + 1) ra v.fst.pts := fun A B => RP.keep' ha3 (by omega) (fun i hi => hkeep A B i (RP.lt ha3 hi))
      have hb4 : ∀ (A B : Option Blk), RP (upd (upd M3 n3 A) (n3 + 1) B) (n3 + 1 + 1) rb v.snd.pts := fun A B => RP.keep' hb3 (by omega) (fun i hi => hkeep A B i (RP.lt hb3 hi))
      have hx4 : ∀ (A B : Option Blk), RP (upd (upd M3 n3 A) (n3 + 1) B) (n3 + 1 + 1) rx v.fst.pts := fun A B => RP.keep' hx3 (by omega) (fun i hi => hkeep A B i (RP.lt hx3 hi))
      have hy4 : ∀ (A B : Option Blk), RP (upd (upd M3 n3 A) (n3 + 1) B) (n3 + 1 + 1) ry v.snd.pts := fun A B => RP.keep' hy3 (by omega) (fun i hi => hkeep A B i (RP.lt hy3 hi))
      have hlf := pts_len v.fst
      have hls := pts_len v.snd
      refine R_callq ?_
      simp only [go_sem, bne_iff_ne, Int.cast_ofNat_Int, ↓reduceIte, Nat.reduceEqDiff, Nat.reduceAdd, Nat.reduceMul, Nat.reduceLeDiff, Nat.reduceSub, Nat.reduceLT, Int.reduceToNat, Int.reduceLT, Int.reduceLE, reduceCtorEq, Nat.zero_add, Nat.add_zero, and_self, and_true, true_and, ne_eq, not_false_eq_true, not_true_eq_false, decide_true, decide_false, Bool.false_eq_true, Bool.not_true, Bool.not_false, Bool.true_and, Bool.and_true, Bool.or_false, Bool.false_or, Bool.and_self]
      refine (same40 ra rx v.fst.pts v.fst.pts _ _ (Rd.frz (ha4 _ _)) (Rd.frz (hx4 _ _)) (by omega) (by omega) true (by simp)).mono ?_
      rintro _ _ _ rfl
      refine ⟨rfl, ?_⟩
      simp only [go_sem, bne_iff_ne, Int.cast_ofNat_Int, ↓reduceIte, Nat.reduceEqDiff, Nat.reduceAdd, Nat.reduceMul, Nat.reduceLeDiff, Nat.reduceSub, Nat.reduceLT, Int.reduceToNat, Int.reduceLT, Int.reduceLE, reduceCtorEq, Nat.zero_add, Nat.add_zero, and_self, and_true, true_and, ne_eq, not_false_eq_true, not_true_eq_false, decide_true, decide_false, Bool.false_eq_true, Bool.not_true, Bool.not_false, Bool.true_and, Bool.and_true, Bool.or_false, Bool.false_or, Bool.and_self]
      refine R_callq ?_
      simp only [go_sem, bne_iff_ne, Int.cast_ofNat_Int, ↓reduceIte, Nat.reduceEqDiff, Nat.reduceAdd, Nat.reduceMul, Nat.reduceLeDiff, Nat.reduceSub, Nat.reduceLT, Int.reduceToNat, Int.reduceLT, Int.reduceLE, reduceCtorEq, Nat.zero_add, Nat.add_zero, and_self, and_true, true_and, ne_eq, not_false_eq_true, not_true_eq_false, decide_true, decide_false, Bool.false_eq_true, Bool.not_true, Bool.not_false, Bool.true_and, Bool.and_true, Bool.or_false, Bool.false_or, Bool.and_self]
      refine (same40 rb ry v.snd.pts v.snd.pts _ _ (Rd.frz (hb4 _ _)) (Rd.frz (hy4 _ _)) (by omega) (by omega) true (by simp)).mono ?_
      rintro _ _ _ rfl
      refine ⟨rfl, ?_⟩
      have il : v.fst.pts.length - 1 < v.fst.pts.length := by omega
      have is : 0 < v.snd.pts.length := by omega
      have hls0 : (0 : Int) < (v.snd.pts.length : Int) := by omega
      obtain ⟨ia, oa, ca, rfl, hia, va⟩ := RP.sl ha3 il
      obtain ⟨ib, ob, cb, rfl, hib, vb⟩ := RP.sl hb3 is
      have e1 : v.fst.pts[v.fst.pts.length - 1] = v.fst.last := by have := pts_last v.fst; rw [List.getElem?_eq_getElem il] at this; exact Option.some.inj this
      rw [e1] at va
      rw [← fst_snd, Nat.zero_mul, Nat.add_zero] at vb
      have w1 : IntKind.i64.wrap ((v.fst.pts.length : Int) - 1) = ((v.fst.pts.length - 1 : Nat) : Int) := by rw [wr_eq (by omega) (by omega)]; omega
      have z1 : (0 : Int) ≤ ((v.fst.pts.length - 1 : Nat) : Int) := by omega
      have k1 : ((v.fst.pts.length - 1 : Nat) : Int) < (v.fst.pts.length : Int) := by omega
      simp only [w1, z1, k1, Int.toNat_natCast, lt0 hia, lt1 hia, lt0 hib, lt1 hib, va, vb, hls0, Int.le_refl, eqCells, beq_self_eq_true, Bool.bne_false, go_sem, bne_iff_ne, Int.cast_ofNat_Int, ↓reduceIte, Nat.reduceEqDiff, Nat.reduceAdd, Nat.reduceMul, Nat.reduceLeDiff, Nat.reduceSub, Nat.reduceLT, Int.reduceToNat, Int.reduceLT, Int.reduceLE, reduceCtorEq, Nat.zero_add, Nat.add_zero, and_self, and_true, true_and, ne_eq, not_false_eq_true, not_true_eq_false, decide_true, decide_false, Bool.false_eq_true, Bool.not_true, Bool.not_false, Bool.true_and, Bool.and_true, Bool.or_false, Bool.false_or, Bool.and_self]
      refine R_callz (by first | (simp only [flats, Reg.flat, Cell.flat, List.all_cons, List.all_nil, Bool.and_self, go_sem, bne_iff_ne, Int.cast_ofNat_Int, ↓reduceIte, Nat.reduceEqDiff, Nat.reduceAdd, Nat.reduceMul, Nat.reduceLeDiff, Nat.reduceSub, Nat.reduceLT, Int.reduceToNat, Int.reduceLT, Int.reduceLE, reduceCtorEq, Nat.zero_add, Nat.add_zero, and_self, and_true, true_and, ne_eq, not_false_eq_true, not_true_eq_false, decide_true, decide_false, Bool.false_eq_true, Bool.not_true, Bool.not_false, Bool.true_and, Bool.and_true, Bool.or_false, Bool.false_or, Bool.and_self]; done) | rfl) ?_
      try simp only [go_sem, bne_iff_ne, Int.cast_ofNat_Int, ↓reduceIte, Nat.reduceEqDiff, Nat.reduceAdd, Nat.reduceMul, Nat.reduceLeDiff, Nat.reduceSub, Nat.reduceLT, Int.reduceToNat, Int.reduceLT, Int.reduceLE, reduceCtorEq, Nat.zero_add, Nat.add_zero, and_self, and_true, true_and, ne_eq, not_false_eq_true, not_true_eq_false, decide_true, decide_false, Bool.false_eq_true, Bool.not_true, Bool.not_false, Bool.true_and, Bool.and_true, Bool.or_false, Bool.false_or, Bool.and_self]
      refine Fn.mono (awake37) ?_
      rintro _ _ _ rfl
      refine ⟨rfl, ?_⟩
      try simp only [go_sem, bne_iff_ne, Int.cast_ofNat_Int, ↓reduceIte, Nat.reduceEqDiff, Nat.reduceAdd, Nat.reduceMul, Nat.reduceLeDiff, Nat.reduceSub, Nat.reduceLT, Int.reduceToNat, Int.reduceLT, Int.reduceLE, reduceCtorEq, Nat.zero_add, Nat.add_zero, and_self, and_true, true_and, ne_eq, not_false_eq_true, not_true_eq_false, decide_true, decide_false, Bool.false_eq_true, Bool.not_true, Bool.not_false, Bool.true_and, Bool.and_true, Bool.or_false, Bool.false_or, Bool.and_self]
    · refine (Halves45no l r (frz M1) n1 (Rd.frz hr1) (by omega) hyes).mono ?_
      rintro _ m2 n2 ⟨rfl, hn2, _⟩
      have hmx2 : max n1 n2 = n2 := Nat.max_eq_right hn2
      have hr2 : RP (unfrz M1 n1 m2) n2 r l := RP.keep' hr1 hn2 (fun i hi => by rw [unfrz_at, if_pos (RP.lt hr1 hi)])
      have hw2 : RP (unfrz M1 n1 m2) n2 rw l := RP.keep' hw1 hn2 (fun i hi => by rw [unfrz_at, if_pos (RP.lt hw1 hi)])
      rw [hmx2]
      generalize unfrz M1 n1 m2 = M2 at hr2 hw2 ⊢
      simp only [r12_5, go_sem, bne_iff_ne, Int.cast_ofNat_Int, ↓reduceIte, Nat.reduceEqDiff, Nat.reduceAdd, Nat.reduceMul, Nat.reduceLeDiff, Nat.reduceSub, Nat.reduceLT, Int.reduceToNat, Int.reduceLT, Int.reduceLE, reduceCtorEq, Nat.zero_add, Nat.add_zero, and_self, and_true, true_and, ne_eq, not_false_eq_true, not_true_eq_false, decide_true, decide_false, Bool.false_eq_true, Bool.not_true, Bool.not_false, Bool.true_and, Bool.and_true, Bool.or_false, Bool.false_or, Bool.and_self]
      refine R_callq ?_
      simp only [go_sem, bne_iff_ne, Int.cast_ofNat_Int, ↓reduceIte, Nat.reduceEqDiff, Nat.reduceAdd, Nat.reduceMul, Nat.reduceLeDiff, Nat.reduceSub, Nat.reduceLT, Int.reduceToNat, Int.reduceLT, Int.reduceLE, reduceCtorEq, Nat.zero_add, Nat.add_zero, and_self, and_true, true_and, ne_eq, not_false_eq_true, not_true_eq_false, decide_true, decide_false, Bool.false_eq_true, Bool.not_true, Bool.not_false, Bool.true_and, Bool.and_true, Bool.or_false, Bool.false_or, Bool.and_self]
      refine (same40 r rw l l _ n2 (Rd.frz hr2) (Rd.frz hw2) (by omega) (by omega) true (by simp)).mono ?_
      rintro _ _ _ rfl
      refine ⟨rfl, ?_⟩
      simp only [r12_7, go_sem, bne_iff_ne, Int.cast_ofNat_Int, ↓reduceIte, Nat.reduceEqDiff, Nat.reduceAdd, Nat.reduceMul, Nat.reduceLeDiff, Nat.reduceSub, Nat.reduceLT, Int.reduceToNat, Int.reduceLT, Int.reduceLE, reduceCtorEq, Nat.zero_add, Nat.add_zero, and_self, and_true, true_and, ne_eq, not_false_eq_true, not_true_eq_false, decide_true, decide_false, Bool.false_eq_true, Bool.not_true, Bool.not_false, Bool.true_and, Bool.and_true, Bool.or_false, Bool.false_or, Bool.and_self]
      refine R_callq ?_
      simp only [go_sem, bne_iff_ne, Int.cast_ofNat_Int, ↓reduceIte, Nat.reduceEqDiff, Nat.reduceAdd, Nat.reduceMul, Nat.reduceLeDiff, Nat.reduceSub, Nat.reduceLT, Int.reduceToNat, Int.reduceLT, Int.reduceLE, reduceCtorEq, Nat.zero_add, Nat.add_zero, and_self, and_true, true_and, ne_eq, not_false_eq_true, not_true_eq_false, decide_true, decide_false, Bool.false_eq_true, Bool.not_true, Bool.not_false, Bool.true_and, Bool.and_true, Bool.or_false, Bool.false_or, Bool.and_self]
      refine (right39 r l _ n2 (Rd.frz hr2) (by omega)).mono ?_
      rintro _ _ _ rfl
      refine ⟨rfl, ?_⟩
      have hc : (l.all inP && (decide (l.length = 3) || decide (l.length = 4))) = false := by
        cases h : (l.all inP && (decide (l.length = 3) || decide (l.length = 4))) with
        | false => rfl
        | true => exact absurd (by simpa using h) hyes
      rw [hc]
      simp only [r12_8, go_sem, bne_iff_ne, Int.cast_ofNat_Int, ↓reduceIte, Nat.reduceEqDiff, Nat.reduceAdd, Nat.reduceMul, Nat.reduceLeDiff, Nat.reduceSub, Nat.reduceLT, Int.reduceToNat, Int.reduceLT, Int.reduceLE, reduceCtorEq, Nat.zero_add, Nat.add_zero, and_self, and_true, true_and, ne_eq, not_false_eq_true, not_true_eq_false, decide_true, decide_false, Bool.false_eq_true, Bool.not_true, Bool.not_false, Bool.true_and, Bool.and_true, Bool.or_false, Bool.false_or, Bool.and_self]
      refine R_callz (by first | (simp only [flats, Reg.flat, Cell.flat, List.all_cons, List.all_nil, Bool.and_self, go_sem, bne_iff_ne, Int.cast_ofNat_Int, ↓reduceIte, Nat.reduceEqDiff, Nat.reduceAdd, Nat.reduceMul, Nat.reduceLeDiff, Nat.reduceSub, Nat.reduceLT, Int.reduceToNat, Int.reduceLT, Int.reduceLE, reduceCtorEq, Nat.zero_add, Nat.add_zero, and_self, and_true, true_and, ne_eq, not_false_eq_true, not_true_eq_false, decide_true, decide_false, Bool.false_eq_true, Bool.not_true, Bool.not_false, Bool.true_and, Bool.and_true, Bool.or_false, Bool.false_or, Bool.and_self]; done) | rfl) ?_
      try simp only [go_sem, bne_iff_ne, Int.cast_ofNat_Int, ↓reduceIte, Nat.reduceEqDiff, Nat.reduceAdd, Nat.reduceMul, Nat.reduceLeDiff, Nat.reduceSub, Nat.reduceLT, Int.reduceToNat, Int.reduceLT, Int.reduceLE, reduceCtorEq, Nat.zero_add, Nat.add_zero, and_self, and_true, true_and, ne_eq, not_false_eq_true, not_true_eq_false, decide_true, decide_false, Bool.false_eq_true, Bool.not_true, Bool.not_false, Bool.true_and, Bool.and_true, Bool.or_false, Bool.false_or, Bool.and_self]
      refine Fn.mono (awake37) ?_
      rintro _ _ _ rfl
      refine ⟨rfl, ?_⟩
      try simp only [go_sem, bne_iff_ne, Int.cast_ofNat_Int, ↓reduceIte, Nat.reduceEqDiff, Nat.reduceAdd, Nat.reduceMul, Nat.reduceLeDiff, Nat.reduceSub, Nat.reduceLT, Int.reduceToNat, Int.reduceLT, Int.reduceLE, reduceCtorEq, Nat.zero_add, Nat.add_zero, and_self, and_true, true_and, ne_eq, not_false_eq_true, not_true_eq_false, decide_true, decide_false, Bool.false_eq_true, Bool.not_true, Bool.not_false, Bool.true_and, Bool.and_true, Bool.or_false, Bool.false_or, Bool.and_self]

theorem rowL12 (hmix : Try.prog.follows .mixedOrders = true) (W : World) (v : Value)
    (h : v = .slice none 0 0 ∨ ∃ b o len cap vs, v = .slice (some ⟨b, o, none⟩) len cap ∧ b < W.heap.size ∧ len ≤ cap ∧ cap ≤ maxLen ∧ RowsOk [.int .i64, .int .i64] cap vs ∧ ∀ (i : Nat) (x : Value), vs[i]? = some x → W.cell? ⟨b, o + i, none⟩ = some x) :
    Calls Try.prog 12 #[v] W (fun e w' => e = .returned (.bool true) ∧ Go.RowKit.Below W.heap.size W w') := by
  obtain ⟨ρ, n, m, r, l, hm, hh, hrel, hrp⟩ := openPts h
  exact law_calls (ng := 0) hmix TA_ok (law12 l r m n hrp) hm (fun _ h => by omega) ⟨_, _, rfl, hrel, rfl⟩ hh
end Go.Proofs.Ytkneefkhggacmaa.Sy
