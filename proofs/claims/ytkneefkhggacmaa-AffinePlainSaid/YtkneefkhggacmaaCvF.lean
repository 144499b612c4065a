/- Curves: lists of the reference, and what is the same. Conditions: those that each theorem names. -/
import Derived.Test.YtkneefkhggacmaaCvE
namespace Go.Proofs.Ytkneefkhggacmaa.Sy
open Go Go.Proofs
set_option linter.unusedSimpArgs false
set_option linter.unusedVariables false
attribute [local go_sem] R_nil R_mv R_pick R_alloc R_box R_build R_bslice R_load1 R_loadA R_store R_nilchk R_bin R_beq R_eqv R_eqnil R_un R_conv R_mkfn R_mkslice R_slS R_slA R_fadr R_fld R_iadrA R_iadrS R_idxA R_ext R_len R_lenC R_cap R_app R_cpy R_mn R_mx
  evalOp evO evOs upd_upd upd_at unfrz_at putE_some putE_none Then_some X_seq X_reg X_dreg X_ret X_skip X_exit X_block X_condK condK_bool Next_n Next_x Next_r Out_n Out_x Out_r Ret_n Ret_r
  bin_shr1 bin_add bin_sub bin_mul bin_lss bin_leq bin_gtr bin_geq bin_eql bin_neq un_not un_neg boolOf_b boolOf_tup R_guard Option.map_some evRes pack_one pack_two pack_three pack_none List.getD_cons_zero List.getD_cons_succ getD_nil
  Option.some.injEq exists_eq_left' Reg.cs? fillC setL List.set_cons_zero List.set_cons_succ List.length_cons List.length_nil rd_upd rdB wr List.drop_zero List.drop_succ_cons List.take_succ_cons List.take_zero List.getElem?_cons_zero List.getElem?_cons_succ
  ix Int.toNat_zero lenO_sl lenO_nil sn1 ns1 sn2 ns2 sn3 ns3 sn4 ns4 sn5 ns5 sn6 ns6 sn7 ns7 sn8 ns8 sn9 ns9 sn10 ns10 sn11 ns11 sn12 ns12 sk1_2 sk1_3 sk1_4 sk1_5 sk1_6 sk1_7 sk1_8 sk2_1 sk2_3 sk2_4 sk2_5 sk2_6 sk2_7 sk2_8 sk3_1 sk3_2 sk3_4 sk3_5 sk3_6 sk3_7 sk3_8 sk4_1 sk4_2 sk4_3 sk4_5 sk4_6 sk4_7 sk4_8 sk5_1 sk5_2 sk5_3 sk5_4 sk5_6 sk5_7 sk5_8 sk6_1 sk6_2 sk6_3 sk6_4 sk6_5 sk6_7 sk6_8 sk7_1 sk7_2 sk7_3 sk7_4 sk7_5 sk7_6 sk7_8 sk8_1 sk8_2 sk8_3 sk8_4 sk8_5 sk8_6 sk8_7

theorem Ow.lt {base : Nat} {m : Mem} {n : Nat} {r : Reg} {cs : List Cell} {len sz i : Nat} (h : Ow base m n r cs len sz) (hi : sid r = some i) : base ≤ i ∧ i < n := by
  rcases h with ⟨h, _⟩ | ⟨j, h, h1, h2, _⟩
  · rw [h] at hi; cases hi
  · rw [h] at hi; simp only [sid, Option.some.injEq] at hi; subst hi; exact ⟨h1, h2⟩

/-- One point more on an owned list. -/
theorem push {base n N : Nat} {m M : Mem} {r : Reg} {acc : List Pt} {p : Pt} {j by' : Nat} {o : Bool} (ho : Ow base m n r (encP acc) acc.length 2) (hN : n ≤ N) (hb : base ≤ n) (hM : ∀ i, i < n → M i = m i) (hj : M j = some ⟨p.cs, o⟩) (hsm : acc.length + 1 ≤ 4294967296) :
    ∃ m', evApp M N 2 by' r (.one (.sl j 0 1 (some 1) 2)) = some (.one (.sl N 0 (acc.length + 1) none 2), m', N + 1) ∧ Ow base m' (N + 1) (.one (.sl N 0 (acc.length + 1) none 2)) (encP (acc ++ [p])) (acc ++ [p]).length 2 ∧ ∀ i, i ≠ N → sid r ≠ some i → m' i = M i := by
  have hk : Ow base M N r (encP acc) acc.length 2 := ho.keep hN (fun i hi => hM i (ho.lt hi).2)
  obtain ⟨m', h1, h2, h3⟩ := Ow.app (by' := by') hk (by omega) (show newsOf M 2 (.one (.sl j 0 1 (some 1) 2)) = some (1, p.cs) by simp [newsOf, Sy.rd, hj]) (by omega) (by omega) rfl
  refine ⟨m', h1, ?_, fun i q1 q2 => h3 i q1 (fun id hid e => q2 (by rw [hid, e]))⟩
  have e1 : encP (acc ++ [p]) = encP acc ++ p.cs := by simp [encP]
  rw [e1, List.length_append]
  exact h2

theorem RP.keep' {m m' : Mem} {n n' : Nat} {r : Reg} {l : List Pt} (h : RP m n r l) (hn : n ≤ n') (hm : ∀ id, sid r = some id → m' id = m id) : RP m' n' r l := by
  rcases h with h | ⟨id, off, cap, h1, h2, h3⟩
  · exact Or.inl h
  · refine Or.inr ⟨id, off, cap, h1, by omega, ?_⟩
    have : Sy.rd m' id off (l.length * 2) = Sy.rd m id off (l.length * 2) := by unfold Sy.rd; rw [hm id (by rw [h1]; rfl)]
    rw [this]; exact h3
theorem RP.lt {m : Mem} {n : Nat} {r : Reg} {l : List Pt} (h : RP m n r l) {i : Nat} (hi : sid r = some i) : i < n := by
  rcases h with ⟨h, _⟩ | ⟨id, off, cap, h1, h2, h3⟩
  · rw [h] at hi; cases hi
  · rw [h1] at hi; simp only [sid, Option.some.injEq] at hi; omega

theorem ref42 (r : Reg) (l : List Pt) (m : Mem) (n : Nat) (hr : RP m n r l) (hl : l.length ≤ 1000000) :
    Fn TA 42 [r] m n (fun r' m' n' => n ≤ n' ∧ (∀ id, id < n → m' id = m id) ∧ Ow n m' n' r' (encP l) l.length 2) := by
  refine Fn_of (fn := F42) rfl (by simp [F42]) ?_
  obtain ⟨L, hL⟩ : ∃ L_, L_ = SC.loop l42_0 := ⟨_, rfl⟩
  have hX : ∀ s Q, X TA l42_0 s (Next Q (fun s_ => X TA L s_ Q)) → X TA L s Q := by subst hL; exact fun _ _ h => X_loop h
  have key : ∀ (k i : Nat) (e : Nat → Reg) (m1 : Mem) (n1 : Nat), i + k = l.length → e 6 = r → e 7 = RI l.length → e 8 = RI i → n ≤ n1 → (∀ id, id < n → m1 id = m id) → Ow n m1 n1 (e 3) (encP (l.take i)) (l.take i).length 2 →
      X TA L ⟨e, m1, n1⟩ (fun e s' => e = .x 0 ∧ n ≤ s'.n ∧ (∀ id, id < n → s'.m id = m id) ∧ Ow n s'.m s'.n (s'.e 3) (encP l) l.length 2) := by
    intro k
    induction k with
    | zero =>
      intro i e m1 n1 hi h6 h7 h8 hn hold ho
      refine hX _ _ ?_
      have hlt : ¬ ((i : Int) < (l.length : Int)) := by omega
      rw [List.take_of_length_le (by omega)] at ho
      simp only [l42_0, r42_3, h8, h7, hlt, go_sem, bne_iff_ne, Int.cast_ofNat_Int, ↓reduceIte, Nat.reduceEqDiff, Nat.reduceAdd, Nat.reduceMul, Nat.reduceLeDiff, Nat.reduceSub, Nat.reduceLT, Int.reduceToNat, Int.reduceLT, Int.reduceLE, reduceCtorEq, Nat.zero_add, Nat.add_zero, and_self, and_true, true_and, ne_eq, not_false_eq_true, not_true_eq_false, decide_true, decide_false, Bool.false_eq_true, Bool.not_true, Bool.not_false, Bool.true_and, Bool.and_true, Bool.or_false, Bool.false_or, Bool.and_self]
      exact ⟨hn, hold, ho⟩
    | succ k ih =>
      intro i e m1 n1 hi h6 h7 h8 hn hold ho
      refine hX _ _ ?_
      have hil : i < l.length := by omega
      have hlt : ((i : Int) < (l.length : Int)) := by omega
      have h00 : (0 : Int) ≤ (i : Int) := by omega
      obtain ⟨id, off, cap, rfl, hid, hrd⟩ := RP.sl (hr.keep hn hold) hil
      have hw : IntKind.i64.wrap ((i : Int) + 1) = ((i + 1 : Nat) : Int) := wr_nat (by omega)
      have htk : l.take (i + 1) = l.take i ++ [l[i]] := by rw [List.take_succ_eq_append_getElem hil]
      have hlen : (l.take i).length = i := by rw [List.length_take]; omega
      obtain ⟨m', h1, h2, h3⟩ := push (N := n1 + 1 + 1) (M := upd (upd m1 n1 (some ⟨l[i].cs, true⟩)) (n1 + 1) (some ⟨l[i].cs, true⟩)) (p := l[i]) (j := n1 + 1) (by' := 16) (o := true) ho (by omega) hn (fun j hj => by simp only [lt0 hj, lt1 hj, go_sem, bne_iff_ne, Int.cast_ofNat_Int, ↓reduceIte, Nat.reduceEqDiff, Nat.reduceAdd, Nat.reduceMul, Nat.reduceLeDiff, Nat.reduceSub, Nat.reduceLT, Int.reduceToNat, Int.reduceLT, Int.reduceLE, reduceCtorEq, Nat.zero_add, Nat.add_zero, and_self, and_true, true_and, ne_eq, not_false_eq_true, not_true_eq_false, decide_true, decide_false, Bool.false_eq_true, Bool.not_true, Bool.not_false, Bool.true_and, Bool.and_true, Bool.or_false, Bool.false_or, Bool.and_self]) (by simp only [go_sem, bne_iff_ne, Int.cast_ofNat_Int, ↓reduceIte, Nat.reduceEqDiff, Nat.reduceAdd, Nat.reduceMul, Nat.reduceLeDiff, Nat.reduceSub, Nat.reduceLT, Int.reduceToNat, Int.reduceLT, Int.reduceLE, reduceCtorEq, Nat.zero_add, Nat.add_zero, and_self, and_true, true_and, ne_eq, not_false_eq_true, not_true_eq_false, decide_true, decide_false, Bool.false_eq_true, Bool.not_true, Bool.not_false, Bool.true_and, Bool.and_true, Bool.or_false, Bool.false_or, Bool.and_self]) (by omega)
      simp only [l42_0, r42_3, r42_4, h8, h7, h6, hlt, h00, Int.toNat_natCast, hrd, go_sem, bne_iff_ne, Int.cast_ofNat_Int, ↓reduceIte, Nat.reduceEqDiff, Nat.reduceAdd, Nat.reduceMul, Nat.reduceLeDiff, Nat.reduceSub, Nat.reduceLT, Int.reduceToNat, Int.reduceLT, Int.reduceLE, reduceCtorEq, Nat.zero_add, Nat.add_zero, and_self, and_true, true_and, ne_eq, not_false_eq_true, not_true_eq_false, decide_true, decide_false, Bool.false_eq_true, Bool.not_true, Bool.not_false, Bool.true_and, Bool.and_true, Bool.or_false, Bool.false_or, Bool.and_self]
      simp only [r42_5, r42_6, h8, h1, hw, go_sem, bne_iff_ne, Int.cast_ofNat_Int, ↓reduceIte, Nat.reduceEqDiff, Nat.reduceAdd, Nat.reduceMul, Nat.reduceLeDiff, Nat.reduceSub, Nat.reduceLT, Int.reduceToNat, Int.reduceLT, Int.reduceLE, reduceCtorEq, Nat.zero_add, Nat.add_zero, and_self, and_true, true_and, ne_eq, not_false_eq_true, not_true_eq_false, decide_true, decide_false, Bool.false_eq_true, Bool.not_true, Bool.not_false, Bool.true_and, Bool.and_true, Bool.or_false, Bool.false_or, Bool.and_self]
      refine ih (i + 1) _ _ _ (by omega) ?_ ?_ ?_ (by omega) ?_ ?_
      · simp only [h6, go_sem, bne_iff_ne, Int.cast_ofNat_Int, ↓reduceIte, Nat.reduceEqDiff, Nat.reduceAdd, Nat.reduceMul, Nat.reduceLeDiff, Nat.reduceSub, Nat.reduceLT, Int.reduceToNat, Int.reduceLT, Int.reduceLE, reduceCtorEq, Nat.zero_add, Nat.add_zero, and_self, and_true, true_and, ne_eq, not_false_eq_true, not_true_eq_false, decide_true, decide_false, Bool.false_eq_true, Bool.not_true, Bool.not_false, Bool.true_and, Bool.and_true, Bool.or_false, Bool.false_or, Bool.and_self]
      · simp only [h7, go_sem, bne_iff_ne, Int.cast_ofNat_Int, ↓reduceIte, Nat.reduceEqDiff, Nat.reduceAdd, Nat.reduceMul, Nat.reduceLeDiff, Nat.reduceSub, Nat.reduceLT, Int.reduceToNat, Int.reduceLT, Int.reduceLE, reduceCtorEq, Nat.zero_add, Nat.add_zero, and_self, and_true, true_and, ne_eq, not_false_eq_true, not_true_eq_false, decide_true, decide_false, Bool.false_eq_true, Bool.not_true, Bool.not_false, Bool.true_and, Bool.and_true, Bool.or_false, Bool.false_or, Bool.and_self]
      · simp only [go_sem, bne_iff_ne, Int.cast_ofNat_Int, ↓reduceIte, Nat.reduceEqDiff, Nat.reduceAdd, Nat.reduceMul, Nat.reduceLeDiff, Nat.reduceSub, Nat.reduceLT, Int.reduceToNat, Int.reduceLT, Int.reduceLE, reduceCtorEq, Nat.zero_add, Nat.add_zero, and_self, and_true, true_and, ne_eq, not_false_eq_true, not_true_eq_false, decide_true, decide_false, Bool.false_eq_true, Bool.not_true, Bool.not_false, Bool.true_and, Bool.and_true, Bool.or_false, Bool.false_or, Bool.and_self]
      · intro j hj
        rw [h3 j (by omega) (fun hs => by have := ho.lt hs; omega)]
        have q0 : (j = n1) = False := eq_false (by omega)
        have q1 : (j = n1 + 1) = False := eq_false (by omega)
        simp only [q0, q1, go_sem, bne_iff_ne, Int.cast_ofNat_Int, ↓reduceIte, Nat.reduceEqDiff, Nat.reduceAdd, Nat.reduceMul, Nat.reduceLeDiff, Nat.reduceSub, Nat.reduceLT, Int.reduceToNat, Int.reduceLT, Int.reduceLE, reduceCtorEq, Nat.zero_add, Nat.add_zero, and_self, and_true, true_and, ne_eq, not_false_eq_true, not_true_eq_false, decide_true, decide_false, Bool.false_eq_true, Bool.not_true, Bool.not_false, Bool.true_and, Bool.and_true, Bool.or_false, Bool.false_or, Bool.and_self]
        exact hold j hj
      · rw [htk]
        simp only [go_sem, bne_iff_ne, Int.cast_ofNat_Int, ↓reduceIte, Nat.reduceEqDiff, Nat.reduceAdd, Nat.reduceMul, Nat.reduceLeDiff, Nat.reduceSub, Nat.reduceLT, Int.reduceToNat, Int.reduceLT, Int.reduceLE, reduceCtorEq, Nat.zero_add, Nat.add_zero, and_self, and_true, true_and, ne_eq, not_false_eq_true, not_true_eq_false, decide_true, decide_false, Bool.false_eq_true, Bool.not_true, Bool.not_false, Bool.true_and, Bool.and_true, Bool.or_false, Bool.false_or, Bool.and_self]
        exact h2
  simp only [F42, c42, r42_0, r42_1, r42_2, hr.len, ← hL, go_sem, bne_iff_ne, Int.cast_ofNat_Int, ↓reduceIte, Nat.reduceEqDiff, Nat.reduceAdd, Nat.reduceMul, Nat.reduceLeDiff, Nat.reduceSub, Nat.reduceLT, Int.reduceToNat, Int.reduceLT, Int.reduceLE, reduceCtorEq, Nat.zero_add, Nat.add_zero, and_self, and_true, true_and, ne_eq, not_false_eq_true, not_true_eq_false, decide_true, decide_false, Bool.false_eq_true, Bool.not_true, Bool.not_false, Bool.true_and, Bool.and_true, Bool.or_false, Bool.false_or, Bool.and_self]
  refine (key l.length 0 _ _ _ (by omega) ?_ ?_ ?_ (Nat.le_refl _) (fun _ _ => rfl) (Or.inl ⟨?_, rfl, rfl⟩)).mono fun e s' h => ?_
  · simp only [go_sem, bne_iff_ne, Int.cast_ofNat_Int, ↓reduceIte, Nat.reduceEqDiff, Nat.reduceAdd, Nat.reduceMul, Nat.reduceLeDiff, Nat.reduceSub, Nat.reduceLT, Int.reduceToNat, Int.reduceLT, Int.reduceLE, reduceCtorEq, Nat.zero_add, Nat.add_zero, and_self, and_true, true_and, ne_eq, not_false_eq_true, not_true_eq_false, decide_true, decide_false, Bool.false_eq_true, Bool.not_true, Bool.not_false, Bool.true_and, Bool.and_true, Bool.or_false, Bool.false_or, Bool.and_self]
  · simp only [go_sem, bne_iff_ne, Int.cast_ofNat_Int, ↓reduceIte, Nat.reduceEqDiff, Nat.reduceAdd, Nat.reduceMul, Nat.reduceLeDiff, Nat.reduceSub, Nat.reduceLT, Int.reduceToNat, Int.reduceLT, Int.reduceLE, reduceCtorEq, Nat.zero_add, Nat.add_zero, and_self, and_true, true_and, ne_eq, not_false_eq_true, not_true_eq_false, decide_true, decide_false, Bool.false_eq_true, Bool.not_true, Bool.not_false, Bool.true_and, Bool.and_true, Bool.or_false, Bool.false_or, Bool.and_self]
  · simp only [go_sem, bne_iff_ne, Int.cast_ofNat_Int, ↓reduceIte, Nat.reduceEqDiff, Nat.reduceAdd, Nat.reduceMul, Nat.reduceLeDiff, Nat.reduceSub, Nat.reduceLT, Int.reduceToNat, Int.reduceLT, Int.reduceLE, reduceCtorEq, Nat.zero_add, Nat.add_zero, and_self, and_true, true_and, ne_eq, not_false_eq_true, not_true_eq_false, decide_true, decide_false, Bool.false_eq_true, Bool.not_true, Bool.not_false, Bool.true_and, Bool.and_true, Bool.or_false, Bool.false_or, Bool.and_self]
  · simp only [go_sem, bne_iff_ne, Int.cast_ofNat_Int, ↓reduceIte, Nat.reduceEqDiff, Nat.reduceAdd, Nat.reduceMul, Nat.reduceLeDiff, Nat.reduceSub, Nat.reduceLT, Int.reduceToNat, Int.reduceLT, Int.reduceLE, reduceCtorEq, Nat.zero_add, Nat.add_zero, and_self, and_true, true_and, ne_eq, not_false_eq_true, not_true_eq_false, decide_true, decide_false, Bool.false_eq_true, Bool.not_true, Bool.not_false, Bool.true_and, Bool.and_true, Bool.or_false, Bool.false_or, Bool.and_self]
  obtain ⟨rfl, h1, h2, h3⟩ := h
  simp only [r42_7, go_sem, bne_iff_ne, Int.cast_ofNat_Int, ↓reduceIte, Nat.reduceEqDiff, Nat.reduceAdd, Nat.reduceMul, Nat.reduceLeDiff, Nat.reduceSub, Nat.reduceLT, Int.reduceToNat, Int.reduceLT, Int.reduceLE, reduceCtorEq, Nat.zero_add, Nat.add_zero, and_self, and_true, true_and, ne_eq, not_false_eq_true, not_true_eq_false, decide_true, decide_false, Bool.false_eq_true, Bool.not_true, Bool.not_false, Bool.true_and, Bool.and_true, Bool.or_false, Bool.false_or, Bool.and_self]
  exact ⟨h1, h2, h3⟩

theorem all_take {l : List Pt} {i : Nat} {a b : List Pt} (h : l.take i = a) (hl : l.length ≤ i) (hb : l = b) : a = b := by
  rw [← h, List.take_of_length_le hl, hb]

/-- The same points. -/
theorem same40 (r1 r2 : Reg) (a b : List Pt) (m : Mem) (n : Nat) (h1 : RP m n r1 a) (h2 : RP m n r2 b) (hl : a.length ≤ 1000000) (hl2 : b.length ≤ 1000000) (t : Bool) (ht : t = true ↔ a = b) :
    Fn TA 40 [r1, r2] m n (fun r' _ _ => r' = RB t) := by
  refine Fn_of (fn := F40) rfl (by simp [F40]) ?_
  obtain ⟨L, hL⟩ : ∃ L_, L_ = SC.loop l40_0 := ⟨_, rfl⟩
  have hX : ∀ s Q, X TA l40_0 s (Next Q (fun s_ => X TA L s_ Q)) → X TA L s Q := by subst hL; exact fun _ _ h => X_loop h
  by_cases hlen : a.length = b.length
  · have key : ∀ (k i : Nat) (e : Nat → Reg), i + k = a.length → e 0 = r1 → e 1 = r2 → e 12 = RI a.length → e 13 = RI i → a.take i = b.take i →
        X TA L ⟨e, m, n⟩ (fun e s' => (e = .x 0 ∧ a = b) ∨ (e = .r ∧ s'.e 4 = RB false ∧ a ≠ b)) := by
      intro k
      induction k with
      | zero =>
        intro i e hi g0 g1 g12 g13 hp
        refine hX _ _ ?_
        have hlt : ¬ ((i : Int) < (a.length : Int)) := by omega
        simp only [l40_0, r40_4, g12, g13, hlt, go_sem, bne_iff_ne, Int.cast_ofNat_Int, ↓reduceIte, Nat.reduceEqDiff, Nat.reduceAdd, Nat.reduceMul, Nat.reduceLeDiff, Nat.reduceSub, Nat.reduceLT, Int.reduceToNat, Int.reduceLT, Int.reduceLE, reduceCtorEq, Nat.zero_add, Nat.add_zero, and_self, and_true, true_and, ne_eq, not_false_eq_true, not_true_eq_false, decide_true, decide_false, Bool.false_eq_true, Bool.not_true, Bool.not_false, Bool.true_and, Bool.and_true, Bool.or_false, Bool.false_or, Bool.and_self]
        rw [List.take_of_length_le (by omega), List.take_of_length_le (by omega)] at hp
        exact Or.inl hp
      | succ k ih =>
        intro i e hi g0 g1 g12 g13 hp
        refine hX _ _ ?_
        have hil : i < a.length := by omega
        have hil2 : i < b.length := by omega
        have hlt : ((i : Int) < (a.length : Int)) := by omega
        have hlt2 : ((i : Int) < (b.length : Int)) := by omega
        have h00 : (0 : Int) ≤ (i : Int) := by omega
        obtain ⟨id, off, cap, rfl, hid, hrd⟩ := RP.sl h1 hil
        obtain ⟨id2, off2, cap2, rfl, hid2, hrd2⟩ := RP.sl h2 hil2
        obtain ⟨c1, hc1, hc2⟩ := rd_cell hrd (a := 0) rfl
        obtain ⟨c1', hc1', hc3⟩ := rd_cell hrd (a := 1) rfl
        rw [hc1] at hc1'; cases hc1'
        obtain ⟨d1, hd1, hd2⟩ := rd_cell hrd2 (a := 0) rfl
        obtain ⟨d1', hd1', hd3⟩ := rd_cell hrd2 (a := 1) rfl
        rw [hd1] at hd1'; cases hd1'
        rw [Nat.add_zero] at hc2 hd2
        have hw : IntKind.i64.wrap ((i : Int) + 1) = ((i + 1 : Nat) : Int) := wr_nat (by omega)
        by_cases hx : a[i].x = b[i].x
        · by_cases hy : a[i].y = b[i].y
          · have hxy : a[i] = b[i] := by
              cases ha : a[i]; cases hb : b[i]
              simp only [ha, hb] at hx hy
              rw [hx, hy]
            simp only [l40_0, r40_4, r40_5, r40_6, g12, g13, g0, g1, hlt, hlt2, h00, Int.toNat_natCast, hc1, hc2, hc3, hd1, hd2, hd3, hx, hy, r40_8, hw, go_sem, bne_iff_ne, Int.cast_ofNat_Int, ↓reduceIte, Nat.reduceEqDiff, Nat.reduceAdd, Nat.reduceMul, Nat.reduceLeDiff, Nat.reduceSub, Nat.reduceLT, Int.reduceToNat, Int.reduceLT, Int.reduceLE, reduceCtorEq, Nat.zero_add, Nat.add_zero, and_self, and_true, true_and, ne_eq, not_false_eq_true, not_true_eq_false, decide_true, decide_false, Bool.false_eq_true, Bool.not_true, Bool.not_false, Bool.true_and, Bool.and_true, Bool.or_false, Bool.false_or, Bool.and_self]
            refine ih (i + 1) _ (by omega) ?_ ?_ ?_ ?_ ?_
            · simp only [g0, go_sem, bne_iff_ne, Int.cast_ofNat_Int, ↓reduceIte, Nat.reduceEqDiff, Nat.reduceAdd, Nat.reduceMul, Nat.reduceLeDiff, Nat.reduceSub, Nat.reduceLT, Int.reduceToNat, Int.reduceLT, Int.reduceLE, reduceCtorEq, Nat.zero_add, Nat.add_zero, and_self, and_true, true_and, ne_eq, not_false_eq_true, not_true_eq_false, decide_true, decide_false, Bool.false_eq_true, Bool.not_true, Bool.not_false, Bool.true_and, Bool.and_true, Bool.or_false, Bool.false_or, Bool.and_self]
            · simp only [g1, go_sem, bne_iff_ne, Int.cast_ofNat_Int, ↓reduceIte, Nat.reduceEqDiff, Nat.reduceAdd, Nat.reduceMul, Nat.reduceLeDiff, Nat.reduceSub, Nat.reduceLT, Int.reduceToNat, Int.reduceLT, Int.reduceLE, reduceCtorEq, Nat.zero_add, Nat.add_zero, and_self, and_true, true_and, ne_eq, not_false_eq_true, not_true_eq_false, decide_true, decide_false, Bool.false_eq_true, Bool.not_true, Bool.not_false, Bool.true_and, Bool.and_true, Bool.or_false, Bool.false_or, Bool.and_self]
            · simp only [g12, go_sem, bne_iff_ne, Int.cast_ofNat_Int, ↓reduceIte, Nat.reduceEqDiff, Nat.reduceAdd, Nat.reduceMul, Nat.reduceLeDiff, Nat.reduceSub, Nat.reduceLT, Int.reduceToNat, Int.reduceLT, Int.reduceLE, reduceCtorEq, Nat.zero_add, Nat.add_zero, and_self, and_true, true_and, ne_eq, not_false_eq_true, not_true_eq_false, decide_true, decide_false, Bool.false_eq_true, Bool.not_true, Bool.not_false, Bool.true_and, Bool.and_true, Bool.or_false, Bool.false_or, Bool.and_self]
            · simp only [go_sem, bne_iff_ne, Int.cast_ofNat_Int, ↓reduceIte, Nat.reduceEqDiff, Nat.reduceAdd, Nat.reduceMul, Nat.reduceLeDiff, Nat.reduceSub, Nat.reduceLT, Int.reduceToNat, Int.reduceLT, Int.reduceLE, reduceCtorEq, Nat.zero_add, Nat.add_zero, and_self, and_true, true_and, ne_eq, not_false_eq_true, not_true_eq_false, decide_true, decide_false, Bool.false_eq_true, Bool.not_true, Bool.not_false, Bool.true_and, Bool.and_true, Bool.or_false, Bool.false_or, Bool.and_self]
            · rw [List.take_succ_eq_append_getElem hil, List.take_succ_eq_append_getElem hil2, hp, hxy]
          · have hne : a ≠ b := fun e => hy (by subst e; rfl)
            simp only [l40_0, r40_4, r40_5, r40_6, g12, g13, g0, g1, hlt, hlt2, h00, Int.toNat_natCast, hc1, hc2, hc3, hd1, hd2, hd3, hx, hy, r40_7, go_sem, bne_iff_ne, Int.cast_ofNat_Int, ↓reduceIte, Nat.reduceEqDiff, Nat.reduceAdd, Nat.reduceMul, Nat.reduceLeDiff, Nat.reduceSub, Nat.reduceLT, Int.reduceToNat, Int.reduceLT, Int.reduceLE, reduceCtorEq, Nat.zero_add, Nat.add_zero, and_self, and_true, true_and, ne_eq, not_false_eq_true, not_true_eq_false, decide_true, decide_false, Bool.false_eq_true, Bool.not_true, Bool.not_false, Bool.true_and, Bool.and_true, Bool.or_false, Bool.false_or, Bool.and_self]
            exact Or.inr hne
        · have hne : a ≠ b := fun e => hx (by subst e; rfl)
          simp only [l40_0, r40_4, r40_5, r40_6, g12, g13, g0, g1, hlt, hlt2, h00, Int.toNat_natCast, hc1, hc2, hc3, hd1, hd2, hd3, hx, r40_7, go_sem, bne_iff_ne, Int.cast_ofNat_Int, ↓reduceIte, Nat.reduceEqDiff, Nat.reduceAdd, Nat.reduceMul, Nat.reduceLeDiff, Nat.reduceSub, Nat.reduceLT, Int.reduceToNat, Int.reduceLT, Int.reduceLE, reduceCtorEq, Nat.zero_add, Nat.add_zero, and_self, and_true, true_and, ne_eq, not_false_eq_true, not_true_eq_false, decide_true, decide_false, Bool.false_eq_true, Bool.not_true, Bool.not_false, Bool.true_and, Bool.and_true, Bool.or_false, Bool.false_or, Bool.and_self]
          exact Or.inr hne
    have hii : (a.length : Int) = (b.length : Int) := by omega
    simp only [F40, c40, r40_0, r40_1, h1.len, h2.len, hii, r40_3, ← hL, go_sem, bne_iff_ne, Int.cast_ofNat_Int, ↓reduceIte, Nat.reduceEqDiff, Nat.reduceAdd, Nat.reduceMul, Nat.reduceLeDiff, Nat.reduceSub, Nat.reduceLT, Int.reduceToNat, Int.reduceLT, Int.reduceLE, reduceCtorEq, Nat.zero_add, Nat.add_zero, and_self, and_true, true_and, ne_eq, not_false_eq_true, not_true_eq_false, decide_true, decide_false, Bool.false_eq_true, Bool.not_true, Bool.not_false, Bool.true_and, Bool.and_true, Bool.or_false, Bool.false_or, Bool.and_self]
    refine (key a.length 0 _ (by omega) ?_ ?_ ?_ ?_ rfl).mono fun e s' h => ?_
    · simp only [go_sem, bne_iff_ne, Int.cast_ofNat_Int, ↓reduceIte, Nat.reduceEqDiff, Nat.reduceAdd, Nat.reduceMul, Nat.reduceLeDiff, Nat.reduceSub, Nat.reduceLT, Int.reduceToNat, Int.reduceLT, Int.reduceLE, reduceCtorEq, Nat.zero_add, Nat.add_zero, and_self, and_true, true_and, ne_eq, not_false_eq_true, not_true_eq_false, decide_true, decide_false, Bool.false_eq_true, Bool.not_true, Bool.not_false, Bool.true_and, Bool.and_true, Bool.or_false, Bool.false_or, Bool.and_self]
    · simp only [go_sem, bne_iff_ne, Int.cast_ofNat_Int, ↓reduceIte, Nat.reduceEqDiff, Nat.reduceAdd, Nat.reduceMul, Nat.reduceLeDiff, Nat.reduceSub, Nat.reduceLT, Int.reduceToNat, Int.reduceLT, Int.reduceLE, reduceCtorEq, Nat.zero_add, Nat.add_zero, and_self, and_true, true_and, ne_eq, not_false_eq_true, not_true_eq_false, decide_true, decide_false, Bool.false_eq_true, Bool.not_true, Bool.not_false, Bool.true_and, Bool.and_true, Bool.or_false, Bool.false_or, Bool.and_self]
    · simp only [hii, go_sem, bne_iff_ne, Int.cast_ofNat_Int, ↓reduceIte, Nat.reduceEqDiff, Nat.reduceAdd, Nat.reduceMul, Nat.reduceLeDiff, Nat.reduceSub, Nat.reduceLT, Int.reduceToNat, Int.reduceLT, Int.reduceLE, reduceCtorEq, Nat.zero_add, Nat.add_zero, and_self, and_true, true_and, ne_eq, not_false_eq_true, not_true_eq_false, decide_true, decide_false, Bool.false_eq_true, Bool.not_true, Bool.not_false, Bool.true_and, Bool.and_true, Bool.or_false, Bool.false_or, Bool.and_self]
    · simp only [go_sem, bne_iff_ne, Int.cast_ofNat_Int, ↓reduceIte, Nat.reduceEqDiff, Nat.reduceAdd, Nat.reduceMul, Nat.reduceLeDiff, Nat.reduceSub, Nat.reduceLT, Int.reduceToNat, Int.reduceLT, Int.reduceLE, reduceCtorEq, Nat.zero_add, Nat.add_zero, and_self, and_true, true_and, ne_eq, not_false_eq_true, not_true_eq_false, decide_true, decide_false, Bool.false_eq_true, Bool.not_true, Bool.not_false, Bool.true_and, Bool.and_true, Bool.or_false, Bool.false_or, Bool.and_self]
    rcases h with ⟨rfl, h⟩ | ⟨rfl, h4, h⟩
    · simp only [r40_9, go_sem, bne_iff_ne, Int.cast_ofNat_Int, ↓reduceIte, Nat.reduceEqDiff, Nat.reduceAdd, Nat.reduceMul, Nat.reduceLeDiff, Nat.reduceSub, Nat.reduceLT, Int.reduceToNat, Int.reduceLT, Int.reduceLE, reduceCtorEq, Nat.zero_add, Nat.add_zero, and_self, and_true, true_and, ne_eq, not_false_eq_true, not_true_eq_false, decide_true, decide_false, Bool.false_eq_true, Bool.not_true, Bool.not_false, Bool.true_and, Bool.and_true, Bool.or_false, Bool.false_or, Bool.and_self]
      rw [ht.2 h]
    · simp only [h4, go_sem, bne_iff_ne, Int.cast_ofNat_Int, ↓reduceIte, Nat.reduceEqDiff, Nat.reduceAdd, Nat.reduceMul, Nat.reduceLeDiff, Nat.reduceSub, Nat.reduceLT, Int.reduceToNat, Int.reduceLT, Int.reduceLE, reduceCtorEq, Nat.zero_add, Nat.add_zero, and_self, and_true, true_and, ne_eq, not_false_eq_true, not_true_eq_false, decide_true, decide_false, Bool.false_eq_true, Bool.not_true, Bool.not_false, Bool.true_and, Bool.and_true, Bool.or_false, Bool.false_or, Bool.and_self]
      cases t with
      | false => rfl
      | true => exact absurd (ht.1 rfl) h
  · have hii : ¬ ((a.length : Int) = (b.length : Int)) := by omega
    have hne : ¬ a = b := fun e => hlen (by rw [e])
    simp only [F40, c40, r40_0, r40_1, h1.len, h2.len, hii, r40_2, go_sem, bne_iff_ne, Int.cast_ofNat_Int, ↓reduceIte, Nat.reduceEqDiff, Nat.reduceAdd, Nat.reduceMul, Nat.reduceLeDiff, Nat.reduceSub, Nat.reduceLT, Int.reduceToNat, Int.reduceLT, Int.reduceLE, reduceCtorEq, Nat.zero_add, Nat.add_zero, and_self, and_true, true_and, ne_eq, not_false_eq_true, not_true_eq_false, decide_true, decide_false, Bool.false_eq_true, Bool.not_true, Bool.not_false, Bool.true_and, Bool.and_true, Bool.or_false, Bool.false_or, Bool.and_self]
    cases t with
    | false => rfl
    | true => exact absurd (ht.1 rfl) hne
end Go.Proofs.Ytkneefkhggacmaa.Sy
