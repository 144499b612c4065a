/- Curves: the reference's halves. Conditions: those that each theorem names. -/
import Derived.Test.YtpleidpbapgmiaaDoorCuF
namespace Go.Proofs.YtpleidpbapgmiaaDoor.Sy.Cu
open Go Go.Proofs
set_option linter.unusedSimpArgs false
set_option linter.unusedVariables false
attribute [local go_sem] R_nil R_mv R_pick R_alloc R_box R_build R_bslice R_load1 R_loadA R_store R_nilchk R_bin R_beq R_eqv R_eqnil R_un R_conv R_mkfn R_mkslice R_slS R_slA R_fadr R_fld R_iadrA R_iadrS R_idxA R_ext R_len R_lenC R_cap R_app R_appz R_cpy R_mn R_mx
  noId Bool.false_or evalOp evO evOs upd_upd upd_at unfrz_at putE_some putE_none Then_some X_seq X_reg X_dreg X_ureg X_ret X_skip X_exit X_block X_condK condK_bool Next_n Next_x Next_r Out_n Out_x Out_r Ret_n Ret_r
  bin_shr1 bin_add bin_sub bin_mul bin_lss bin_leq bin_gtr bin_geq bin_eql bin_neq un_not un_neg boolOf_b boolOf_tup R_guard Option.map_some evRes pack_one pack_two pack_three pack_none List.getD_cons_zero List.getD_cons_succ getD_nil
  Option.some.injEq exists_eq_left' Reg.cs? fillC setL List.set_cons_zero List.set_cons_succ List.length_cons List.length_nil rd_upd rdB wr List.drop_zero List.drop_succ_cons List.take_succ_cons List.take_zero List.getElem?_cons_zero List.getElem?_cons_succ
  ix Int.toNat_zero lenO_sl lenO_nil sn1 ns1 sn2 ns2 sn3 ns3 sn4 ns4 sn5 ns5 sn6 ns6 sn7 ns7 sn8 ns8 sn9 ns9 sn10 ns10 sn11 ns11 sn12 ns12 sk1_2 sk1_3 sk1_4 sk1_5 sk1_6 sk1_7 sk1_8 sk2_1 sk2_3 sk2_4 sk2_5 sk2_6 sk2_7 sk2_8 sk3_1 sk3_2 sk3_4 sk3_5 sk3_6 sk3_7 sk3_8 sk4_1 sk4_2 sk4_3 sk4_5 sk4_6 sk4_7 sk4_8 sk5_1 sk5_2 sk5_3 sk5_4 sk5_6 sk5_7 sk5_8 sk6_1 sk6_2 sk6_3 sk6_4 sk6_5 sk6_7 sk6_8 sk7_1 sk7_2 sk7_3 sk7_4 sk7_5 sk7_6 sk7_8 sk8_1 sk8_2 sk8_3 sk8_4 sk8_5 sk8_6 sk8_7

theorem Below64 (x : Int) (h1 : -10000000000 ≤ x) (h2 : x ≤ 10000000000) (m : Mem) (n : Nat) : Fn TA 60 [RI x, RI 2] m n (fun r _ _ => r = RI (x / 2)) := by
  refine Fn_of (fn := F60) rfl (by simp [F60]) ?_
  have ht : x.tdiv 2 = if 0 ≤ x then x / 2 else -(-x / 2) := by
    split
    · exact Int.tdiv_eq_ediv_of_nonneg ‹_›
    · have := Int.neg_tdiv (-x) 2
      rw [Int.neg_neg] at this
      rw [this, Int.tdiv_eq_ediv_of_nonneg (by omega)]
  have hqq : x.tdiv 2 ≤ 10000000000 ∧ -10000000000 ≤ x.tdiv 2 := by rw [ht]; split <;> omega
  have hq : IntKind.i64.wrap (x.tdiv 2) = x.tdiv 2 := wr_eq (by omega) (by omega)
  have hm : IntKind.i64.wrap (x.tdiv 2 * 2) = x.tdiv 2 * 2 := wr_eq (by omega) (by omega)
  have hs : IntKind.i64.wrap (x.tdiv 2 - 1) = x.tdiv 2 - 1 := wr_eq (by omega) (by omega)
  have hh : IntKind.i64.wrap (x / 2) = x / 2 := wr_eq (by omega) (by omega)
  by_cases h : x < x.tdiv 2 * 2
  · have e : x.tdiv 2 - 1 = x / 2 := by rw [ht] at h ⊢; split at h <;> split <;> omega
    simp only [F60, c60, r60_0, r60_1, r60_2, bin_quo (show (2 : Int) ≠ 0 by decide), hq, hm, h, r60_3, e, hh, r60_4, go_sem, Int.reduceTMod, Int.reduceTDiv, Int.reduceDiv, Int.reduceMod, Int.reduceAdd, Int.reduceSub, Int.reduceMul, Int.reduceNeg, Int.reducePow, Int.reduceEq, bne_iff_ne, Int.cast_ofNat_Int, ↓reduceIte, Nat.reduceEqDiff, Nat.reduceAdd, Nat.reduceMul, Nat.reduceLeDiff, Nat.reduceSub, Nat.reduceLT, Int.reduceToNat, Int.reduceLT, Int.reduceLE, reduceCtorEq, Nat.zero_add, Nat.add_zero, and_self, and_true, true_and, ne_eq, not_false_eq_true, not_true_eq_false, decide_true, decide_false, Bool.false_eq_true, Bool.not_true, Bool.not_false, Bool.true_and, Bool.and_true, Bool.or_false, Bool.false_or, Bool.and_self]
  · have e : x.tdiv 2 = x / 2 := by rw [ht] at h ⊢; split at h <;> split <;> omega
    simp only [F60, c60, r60_0, r60_1, r60_2, bin_quo (show (2 : Int) ≠ 0 by decide), hq, hm, h, r60_4, go_sem, Int.reduceTMod, Int.reduceTDiv, Int.reduceDiv, Int.reduceMod, Int.reduceAdd, Int.reduceSub, Int.reduceMul, Int.reduceNeg, Int.reducePow, Int.reduceEq, bne_iff_ne, Int.cast_ofNat_Int, ↓reduceIte, Nat.reduceEqDiff, Nat.reduceAdd, Nat.reduceMul, Nat.reduceLeDiff, Nat.reduceSub, Nat.reduceLT, Int.reduceToNat, Int.reduceLT, Int.reduceLE, reduceCtorEq, Nat.zero_add, Nat.add_zero, and_self, and_true, true_and, ne_eq, not_false_eq_true, not_true_eq_false, decide_true, decide_false, Bool.false_eq_true, Bool.not_true, Bool.not_false, Bool.true_and, Bool.and_true, Bool.or_false, Bool.false_or, Bool.and_self]
    rw [e]

theorem Mid48 (p q : Pt) (hp : inP p = true) (hq : inP q = true) (m : Mem) (n : Nat) : Fn TA 46 [p.r, q.r] m n (fun r _ _ => r = (mid p q).r) := by
  refine Fn_of (fn := F46) rfl (by simp [F46]) ?_
  rw [inP_iff] at *
  have wx : IntKind.i64.wrap (p.x + q.x) = p.x + q.x := wr_eq (by omega) (by omega)
  have wy : IntKind.i64.wrap (p.y + q.y) = p.y + q.y := wr_eq (by omega) (by omega)
  simp only [F46, c46, r46_0, r46_1, wx, go_sem, Int.reduceTMod, Int.reduceTDiv, Int.reduceDiv, Int.reduceMod, Int.reduceAdd, Int.reduceSub, Int.reduceMul, Int.reduceNeg, Int.reducePow, Int.reduceEq, bne_iff_ne, Int.cast_ofNat_Int, ↓reduceIte, Nat.reduceEqDiff, Nat.reduceAdd, Nat.reduceMul, Nat.reduceLeDiff, Nat.reduceSub, Nat.reduceLT, Int.reduceToNat, Int.reduceLT, Int.reduceLE, reduceCtorEq, Nat.zero_add, Nat.add_zero, and_self, and_true, true_and, ne_eq, not_false_eq_true, not_true_eq_false, decide_true, decide_false, Bool.false_eq_true, Bool.not_true, Bool.not_false, Bool.true_and, Bool.and_true, Bool.or_false, Bool.false_or, Bool.and_self]
  refine R_callz (by first | (simp only [flats, Reg.flat, Cell.flat, List.all_cons, List.all_nil, Bool.and_self, go_sem, Int.reduceTMod, Int.reduceTDiv, Int.reduceDiv, Int.reduceMod, Int.reduceAdd, Int.reduceSub, Int.reduceMul, Int.reduceNeg, Int.reducePow, Int.reduceEq, bne_iff_ne, Int.cast_ofNat_Int, ↓reduceIte, Nat.reduceEqDiff, Nat.reduceAdd, Nat.reduceMul, Nat.reduceLeDiff, Nat.reduceSub, Nat.reduceLT, Int.reduceToNat, Int.reduceLT, Int.reduceLE, reduceCtorEq, Nat.zero_add, Nat.add_zero, and_self, and_true, true_and, ne_eq, not_false_eq_true, not_true_eq_false, decide_true, decide_false, Bool.false_eq_true, Bool.not_true, Bool.not_false, Bool.true_and, Bool.and_true, Bool.or_false, Bool.false_or, Bool.and_self]; done) | rfl) ?_
  try simp only [go_sem, Int.reduceTMod, Int.reduceTDiv, Int.reduceDiv, Int.reduceMod, Int.reduceAdd, Int.reduceSub, Int.reduceMul, Int.reduceNeg, Int.reducePow, Int.reduceEq, bne_iff_ne, Int.cast_ofNat_Int, ↓reduceIte, Nat.reduceEqDiff, Nat.reduceAdd, Nat.reduceMul, Nat.reduceLeDiff, Nat.reduceSub, Nat.reduceLT, Int.reduceToNat, Int.reduceLT, Int.reduceLE, reduceCtorEq, Nat.zero_add, Nat.add_zero, and_self, and_true, true_and, ne_eq, not_false_eq_true, not_true_eq_false, decide_true, decide_false, Bool.false_eq_true, Bool.not_true, Bool.not_false, Bool.true_and, Bool.and_true, Bool.or_false, Bool.false_or, Bool.and_self]
  refine Fn.mono (Below64 (p.x + q.x) (by omega) (by omega) _ _) ?_
  rintro _ _ _ rfl
  refine ⟨rfl, ?_⟩
  try simp only [wy, go_sem, Int.reduceTMod, Int.reduceTDiv, Int.reduceDiv, Int.reduceMod, Int.reduceAdd, Int.reduceSub, Int.reduceMul, Int.reduceNeg, Int.reducePow, Int.reduceEq, bne_iff_ne, Int.cast_ofNat_Int, ↓reduceIte, Nat.reduceEqDiff, Nat.reduceAdd, Nat.reduceMul, Nat.reduceLeDiff, Nat.reduceSub, Nat.reduceLT, Int.reduceToNat, Int.reduceLT, Int.reduceLE, reduceCtorEq, Nat.zero_add, Nat.add_zero, and_self, and_true, true_and, ne_eq, not_false_eq_true, not_true_eq_false, decide_true, decide_false, Bool.false_eq_true, Bool.not_true, Bool.not_false, Bool.true_and, Bool.and_true, Bool.or_false, Bool.false_or, Bool.and_self]
  refine R_callz (by first | (simp only [flats, Reg.flat, Cell.flat, List.all_cons, List.all_nil, Bool.and_self, go_sem, Int.reduceTMod, Int.reduceTDiv, Int.reduceDiv, Int.reduceMod, Int.reduceAdd, Int.reduceSub, Int.reduceMul, Int.reduceNeg, Int.reducePow, Int.reduceEq, bne_iff_ne, Int.cast_ofNat_Int, ↓reduceIte, Nat.reduceEqDiff, Nat.reduceAdd, Nat.reduceMul, Nat.reduceLeDiff, Nat.reduceSub, Nat.reduceLT, Int.reduceToNat, Int.reduceLT, Int.reduceLE, reduceCtorEq, Nat.zero_add, Nat.add_zero, and_self, and_true, true_and, ne_eq, not_false_eq_true, not_true_eq_false, decide_true, decide_false, Bool.false_eq_true, Bool.not_true, Bool.not_false, Bool.true_and, Bool.and_true, Bool.or_false, Bool.false_or, Bool.and_self]; done) | rfl) ?_
  try simp only [go_sem, Int.reduceTMod, Int.reduceTDiv, Int.reduceDiv, Int.reduceMod, Int.reduceAdd, Int.reduceSub, Int.reduceMul, Int.reduceNeg, Int.reducePow, Int.reduceEq, bne_iff_ne, Int.cast_ofNat_Int, ↓reduceIte, Nat.reduceEqDiff, Nat.reduceAdd, Nat.reduceMul, Nat.reduceLeDiff, Nat.reduceSub, Nat.reduceLT, Int.reduceToNat, Int.reduceLT, Int.reduceLE, reduceCtorEq, Nat.zero_add, Nat.add_zero, and_self, and_true, true_and, ne_eq, not_false_eq_true, not_true_eq_false, decide_true, decide_false, Bool.false_eq_true, Bool.not_true, Bool.not_false, Bool.true_and, Bool.and_true, Bool.or_false, Bool.false_or, Bool.and_self]
  refine Fn.mono (Below64 (p.y + q.y) (by omega) (by omega) _ _) ?_
  rintro _ _ _ rfl
  refine ⟨rfl, ?_⟩
  try simp only [mid, go_sem, Int.reduceTMod, Int.reduceTDiv, Int.reduceDiv, Int.reduceMod, Int.reduceAdd, Int.reduceSub, Int.reduceMul, Int.reduceNeg, Int.reducePow, Int.reduceEq, bne_iff_ne, Int.cast_ofNat_Int, ↓reduceIte, Nat.reduceEqDiff, Nat.reduceAdd, Nat.reduceMul, Nat.reduceLeDiff, Nat.reduceSub, Nat.reduceLT, Int.reduceToNat, Int.reduceLT, Int.reduceLE, reduceCtorEq, Nat.zero_add, Nat.add_zero, and_self, and_true, true_and, ne_eq, not_false_eq_true, not_true_eq_false, decide_true, decide_false, Bool.false_eq_true, Bool.not_true, Bool.not_false, Bool.true_and, Bool.and_true, Bool.or_false, Bool.false_or, Bool.and_self]

def mids : List Pt → List Pt
  | p :: q :: l => mid p q :: mids (q :: l)
  | _ => []
def firsts : Nat → List Pt → List Pt
  | 0, _ => []
  | k + 1, l => l.take 1 ++ firsts k (mids l)
def lasts : Nat → List Pt → List Pt
  | 0, _ => []
  | k + 1, l => lasts k (mids l) ++ l.drop (l.length - 1)
theorem mids_len : ∀ l : List Pt, (mids l).length = l.length - 1
  | [] => rfl
  | [_] => rfl
  | p :: q :: l => by rw [mids, List.length_cons, mids_len (q :: l)]; simp
theorem mids_at : ∀ (l : List Pt) (i : Nat) (h : i + 1 < l.length), (mids l)[i]? = some (mid (l[i]'(by omega)) l[i + 1])
  | [], i, h => by simp at h
  | [_], i, h => by simp at h
  | p :: q :: l, 0, h => rfl
  | p :: q :: l, i + 1, h => by
    have := mids_at (q :: l) i (by simpa using h)
    simpa [mids] using this
theorem mids_in : ∀ {l : List Pt}, l.all inP = true → (mids l).all inP = true
  | [], _ => rfl
  | [_], _ => rfl
  | p :: q :: l, h => by
    simp only [List.all_cons, Bool.and_eq_true] at h
    simp only [mids, List.all_cons, Bool.and_eq_true]
    exact ⟨inP_mid h.1 h.2.1, mids_in (by simp [h.2.1, h.2.2])⟩

/-- One point ahead of a list. -/
theorem pre {n N : Nat} {m M : Mem} {r : Reg} {b : List Pt} {p : Pt} {j by' : Nat} (hr : RP m n r b) (hn : n ≤ N) (hM : ∀ i, sid r = some i → M i = m i) (hj : M j = some ⟨p.cs, true⟩) (hjN : j < N) (hsm : b.length + 1 ≤ 4294967296) :
    ∃ r' m' N', evApp M N 2 by' (.one (.sl j 0 1 (some 1) 2)) r = some (r', m', N') ∧ N ≤ N' ∧ RP m' N' r' (p :: b) ∧ (∀ id, sid r' = some id → id = j ∨ id = N) ∧ ∀ i, i ≠ N → m' i = M i := by
  rcases hr.keep' hn hM with ⟨rfl, h2, h3⟩ | ⟨id, off, cap, rfl, h2, h3⟩
  · have hb : b = [] := List.length_eq_zero_iff.1 h2
    subst hb
    refine ⟨_, _, _, by simp [evApp, newsOf], Nat.le_refl _, Or.inr ⟨j, 0, some 1, rfl, hjN, ?_⟩, fun id h => ?_, fun _ _ => rfl⟩
    · simp [Sy.rd, hj, encP]
    · simp only [sid, Option.some.injEq] at h; exact Or.inl h.symm
  · have hpos : ¬ (1 + b.length ≤ 1) ∨ b.length = 0 := by omega
    rcases hpos with hpos | hz
    · refine ⟨.one (.sl N 0 (1 + b.length) none 2), upd M N (some ⟨p.cs ++ encP b, true⟩), N + 1, ?_, Nat.le_succ _, Or.inr ⟨N, 0, none, by rw [List.length_cons, Nat.add_comm], Nat.lt_succ_self _, ?_⟩, fun id h => ?_, fun i hi => upd_ne _ _ hi⟩
      · have h4 : 1 + b.length ≤ 4294967296 := by omega
        have h5 : b.length ≠ 0 := by omega
        have h6 : Sy.rd M j 0 2 = some p.cs := by simp [Sy.rd, hj]
        simp [evApp, newsOf, h3, h4, hpos, h6, h5]
      · have hl : (encP b).length = b.length * 2 := flatMap_len _ 2 cs2 b
        unfold Sy.rd
        rw [upd_same]
        simp only [Nat.zero_add, List.drop_zero]
        rw [if_pos (by simp [hl]; omega), List.take_of_length_le (by simp [hl]; omega)]
        rfl
      · simp only [sid, Option.some.injEq] at h; exact Or.inr h.symm
    · have hb : b = [] := List.length_eq_zero_iff.1 hz
      subst hb
      refine ⟨.one (.sl j 0 1 (some 1) 2), M, N, ?_, Nat.le_refl _, Or.inr ⟨j, 0, some 1, rfl, hjN, ?_⟩, fun id h => ?_, fun _ _ => rfl⟩
      · simp only [List.length_nil] at h3
        simp [evApp, newsOf, h3]
      · simp [Sy.rd, hj, encP]
      · simp only [sid, Option.some.injEq] at h; exact Or.inl h.symm

/-- The middles of a list's neighbours. -/
theorem inner46 (r : Reg) (l : List Pt) (n1 : Nat) (m1 : Mem) (hr : RP m1 n1 r l) (hl : l.length ≤ 1000000) (hin : l.all inP = true) (a b : Reg) : ∀ (k i : Nat) (e : Nat → Reg) (m : Mem) (n : Nat), i + k + 1 = l.length → e 0 = r → e 4 = a → e 5 = b → e 7 = RI i → n1 ≤ n → (∀ id, id < n1 → m id = m1 id) → Ow n1 m n (e 6) (encP ((mids l).take i)) ((mids l).take i).length 2 →
    X TA (.loop l47_0) ⟨e, m, n⟩ (fun e s' => e = .x 2 ∧ s'.e 0 = r ∧ s'.e 4 = a ∧ s'.e 5 = b ∧ n1 ≤ s'.n ∧ (∀ id, id < n1 → s'.m id = m1 id) ∧ Ow n1 s'.m s'.n (s'.e 6) (encP (mids l)) (mids l).length 2) := by
  obtain ⟨L, hL⟩ : ∃ L_, L_ = SC.loop l47_0 := ⟨_, rfl⟩
  have hX : ∀ s Q, X TA l47_0 s (Next Q (fun s_ => X TA L s_ Q)) → X TA L s Q := by subst hL; exact fun _ _ h => X_loop h
  rw [← hL]
  intro k
  induction k with
  | zero =>
    intro i e m n hi h0 h4 h5 h7 hn hold ho
    refine hX _ _ ?_
    have hw : IntKind.i64.wrap ((i : Int) + 1) = ((i + 1 : Nat) : Int) := wr_nat (by omega)
    have hlt : ¬ (((i + 1 : Nat) : Int) < (l.length : Int)) := by omega
    have hlen := Rd.len (Rd.keep hr hn hold)
    rw [List.take_of_length_le (by rw [mids_len]; omega)] at ho
    simp only [l47_0, r47_7, h7, hw, h0, hlen, hlt, go_sem, Int.reduceTMod, Int.reduceTDiv, Int.reduceDiv, Int.reduceMod, Int.reduceAdd, Int.reduceSub, Int.reduceMul, Int.reduceNeg, Int.reducePow, Int.reduceEq, bne_iff_ne, Int.cast_ofNat_Int, ↓reduceIte, Nat.reduceEqDiff, Nat.reduceAdd, Nat.reduceMul, Nat.reduceLeDiff, Nat.reduceSub, Nat.reduceLT, Int.reduceToNat, Int.reduceLT, Int.reduceLE, reduceCtorEq, Nat.zero_add, Nat.add_zero, and_self, and_true, true_and, ne_eq, not_false_eq_true, not_true_eq_false, decide_true, decide_false, Bool.false_eq_true, Bool.not_true, Bool.not_false, Bool.true_and, Bool.and_true, Bool.or_false, Bool.false_or, Bool.and_self]
    exact ⟨h4, h5, hn, hold, ho⟩
  | succ k ih =>
    intro i e m n hi h0 h4 h5 h7 hn hold ho
    refine hX _ _ ?_
    have hil : i + 1 < l.length := by omega
    have hw : IntKind.i64.wrap ((i : Int) + 1) = ((i + 1 : Nat) : Int) := wr_nat (by omega)
    have hlt : (((i + 1 : Nat) : Int) < (l.length : Int)) := by omega
    have hlt0 : (i : Int) < (l.length : Int) := by omega
    have h00 : (0 : Int) ≤ (i : Int) := by omega
    have h01 : (0 : Int) ≤ ((i + 1 : Nat) : Int) := by omega
    have hn1 : ((i + 1 : Nat) : Int).toNat = i + 1 := rfl
    obtain ⟨id, off, cap, rfl, hid, hrd⟩ := RP.sl (Rd.keep hr hn hold) (show i < l.length by omega)
    obtain ⟨id', off', cap', hsl, hid', hrd'⟩ := RP.sl (Rd.keep hr hn hold) hil
    cases hsl
    have hin1 : inP l[i] = true := List.all_eq_true.1 hin _ (List.getElem_mem _)
    have hin2 : inP l[i + 1] = true := List.all_eq_true.1 hin _ (List.getElem_mem _)
    have htk : (mids l).take (i + 1) = (mids l).take i ++ [mid l[i] l[i + 1]] := by rw [List.take_add_one, mids_at l i hil]; rfl
    have hlen : ((mids l).take i).length = i := by rw [List.length_take, mids_len]; omega
    obtain ⟨m', g1, g2, g3⟩ := push (N := n + 1) (M := upd m n (some ⟨(mid l[i] l[i + 1]).cs, true⟩)) (p := mid l[i] l[i + 1]) (j := n) (by' := 16) (o := true) ho (by omega) hn (fun j hj => by simp only [lt0 hj, go_sem, Int.reduceTMod, Int.reduceTDiv, Int.reduceDiv, Int.reduceMod, Int.reduceAdd, Int.reduceSub, Int.reduceMul, Int.reduceNeg, Int.reducePow, Int.reduceEq, bne_iff_ne, Int.cast_ofNat_Int, ↓reduceIte, Nat.reduceEqDiff, Nat.reduceAdd, Nat.reduceMul, Nat.reduceLeDiff, Nat.reduceSub, Nat.reduceLT, Int.reduceToNat, Int.reduceLT, Int.reduceLE, reduceCtorEq, Nat.zero_add, Nat.add_zero, and_self, and_true, true_and, ne_eq, not_false_eq_true, not_true_eq_false, decide_true, decide_false, Bool.false_eq_true, Bool.not_true, Bool.not_false, Bool.true_and, Bool.and_true, Bool.or_false, Bool.false_or, Bool.and_self]) (by simp only [go_sem, Int.reduceTMod, Int.reduceTDiv, Int.reduceDiv, Int.reduceMod, Int.reduceAdd, Int.reduceSub, Int.reduceMul, Int.reduceNeg, Int.reducePow, Int.reduceEq, bne_iff_ne, Int.cast_ofNat_Int, ↓reduceIte, Nat.reduceEqDiff, Nat.reduceAdd, Nat.reduceMul, Nat.reduceLeDiff, Nat.reduceSub, Nat.reduceLT, Int.reduceToNat, Int.reduceLT, Int.reduceLE, reduceCtorEq, Nat.zero_add, Nat.add_zero, and_self, and_true, true_and, ne_eq, not_false_eq_true, not_true_eq_false, decide_true, decide_false, Bool.false_eq_true, Bool.not_true, Bool.not_false, Bool.true_and, Bool.and_true, Bool.or_false, Bool.false_or, Bool.and_self]) (by omega)
    simp only [l47_0, r47_7, h7, hw, h0, hlt, r47_9, h00, h01, hn1, Int.toNat_natCast, hrd, hrd', hlt0, go_sem, Int.reduceTMod, Int.reduceTDiv, Int.reduceDiv, Int.reduceMod, Int.reduceAdd, Int.reduceSub, Int.reduceMul, Int.reduceNeg, Int.reducePow, Int.reduceEq, bne_iff_ne, Int.cast_ofNat_Int, ↓reduceIte, Nat.reduceEqDiff, Nat.reduceAdd, Nat.reduceMul, Nat.reduceLeDiff, Nat.reduceSub, Nat.reduceLT, Int.reduceToNat, Int.reduceLT, Int.reduceLE, reduceCtorEq, Nat.zero_add, Nat.add_zero, and_self, and_true, true_and, ne_eq, not_false_eq_true, not_true_eq_false, decide_true, decide_false, Bool.false_eq_true, Bool.not_true, Bool.not_false, Bool.true_and, Bool.and_true, Bool.or_false, Bool.false_or, Bool.and_self]
    refine R_callz (by first | (simp only [flats, Reg.flat, Cell.flat, List.all_cons, List.all_nil, Bool.and_self, go_sem, Int.reduceTMod, Int.reduceTDiv, Int.reduceDiv, Int.reduceMod, Int.reduceAdd, Int.reduceSub, Int.reduceMul, Int.reduceNeg, Int.reducePow, Int.reduceEq, bne_iff_ne, Int.cast_ofNat_Int, ↓reduceIte, Nat.reduceEqDiff, Nat.reduceAdd, Nat.reduceMul, Nat.reduceLeDiff, Nat.reduceSub, Nat.reduceLT, Int.reduceToNat, Int.reduceLT, Int.reduceLE, reduceCtorEq, Nat.zero_add, Nat.add_zero, and_self, and_true, true_and, ne_eq, not_false_eq_true, not_true_eq_false, decide_true, decide_false, Bool.false_eq_true, Bool.not_true, Bool.not_false, Bool.true_and, Bool.and_true, Bool.or_false, Bool.false_or, Bool.and_self]; done) | rfl) ?_
    try simp only [go_sem, Int.reduceTMod, Int.reduceTDiv, Int.reduceDiv, Int.reduceMod, Int.reduceAdd, Int.reduceSub, Int.reduceMul, Int.reduceNeg, Int.reducePow, Int.reduceEq, bne_iff_ne, Int.cast_ofNat_Int, ↓reduceIte, Nat.reduceEqDiff, Nat.reduceAdd, Nat.reduceMul, Nat.reduceLeDiff, Nat.reduceSub, Nat.reduceLT, Int.reduceToNat, Int.reduceLT, Int.reduceLE, reduceCtorEq, Nat.zero_add, Nat.add_zero, and_self, and_true, true_and, ne_eq, not_false_eq_true, not_true_eq_false, decide_true, decide_false, Bool.false_eq_true, Bool.not_true, Bool.not_false, Bool.true_and, Bool.and_true, Bool.or_false, Bool.false_or, Bool.and_self]
    refine Fn.mono (Mid48 l[i] l[i + 1] hin1 hin2 _ _) ?_
    rintro _ _ _ rfl
    refine ⟨rfl, ?_⟩
    try simp only [g1, r47_8, h7, hw, go_sem, Int.reduceTMod, Int.reduceTDiv, Int.reduceDiv, Int.reduceMod, Int.reduceAdd, Int.reduceSub, Int.reduceMul, Int.reduceNeg, Int.reducePow, Int.reduceEq, bne_iff_ne, Int.cast_ofNat_Int, ↓reduceIte, Nat.reduceEqDiff, Nat.reduceAdd, Nat.reduceMul, Nat.reduceLeDiff, Nat.reduceSub, Nat.reduceLT, Int.reduceToNat, Int.reduceLT, Int.reduceLE, reduceCtorEq, Nat.zero_add, Nat.add_zero, and_self, and_true, true_and, ne_eq, not_false_eq_true, not_true_eq_false, decide_true, decide_false, Bool.false_eq_true, Bool.not_true, Bool.not_false, Bool.true_and, Bool.and_true, Bool.or_false, Bool.false_or, Bool.and_self]
    refine ih (i + 1) _ _ _ (by omega) ?_ ?_ ?_ ?_ (by omega) ?_ ?_
    · simp only [h0, go_sem, Int.reduceTMod, Int.reduceTDiv, Int.reduceDiv, Int.reduceMod, Int.reduceAdd, Int.reduceSub, Int.reduceMul, Int.reduceNeg, Int.reducePow, Int.reduceEq, bne_iff_ne, Int.cast_ofNat_Int, ↓reduceIte, Nat.reduceEqDiff, Nat.reduceAdd, Nat.reduceMul, Nat.reduceLeDiff, Nat.reduceSub, Nat.reduceLT, Int.reduceToNat, Int.reduceLT, Int.reduceLE, reduceCtorEq, Nat.zero_add, Nat.add_zero, and_self, and_true, true_and, ne_eq, not_false_eq_true, not_true_eq_false, decide_true, decide_false, Bool.false_eq_true, Bool.not_true, Bool.not_false, Bool.true_and, Bool.and_true, Bool.or_false, Bool.false_or, Bool.and_self]
    · simp only [h4, go_sem, Int.reduceTMod, Int.reduceTDiv, Int.reduceDiv, Int.reduceMod, Int.reduceAdd, Int.reduceSub, Int.reduceMul, Int.reduceNeg, Int.reducePow, Int.reduceEq, bne_iff_ne, Int.cast_ofNat_Int, ↓reduceIte, Nat.reduceEqDiff, Nat.reduceAdd, Nat.reduceMul, Nat.reduceLeDiff, Nat.reduceSub, Nat.reduceLT, Int.reduceToNat, Int.reduceLT, Int.reduceLE, reduceCtorEq, Nat.zero_add, Nat.add_zero, and_self, and_true, true_and, ne_eq, not_false_eq_true, not_true_eq_false, decide_true, decide_false, Bool.false_eq_true, Bool.not_true, Bool.not_false, Bool.true_and, Bool.and_true, Bool.or_false, Bool.false_or, Bool.and_self]
    · simp only [h5, go_sem, Int.reduceTMod, Int.reduceTDiv, Int.reduceDiv, Int.reduceMod, Int.reduceAdd, Int.reduceSub, Int.reduceMul, Int.reduceNeg, Int.reducePow, Int.reduceEq, bne_iff_ne, Int.cast_ofNat_Int, ↓reduceIte, Nat.reduceEqDiff, Nat.reduceAdd, Nat.reduceMul, Nat.reduceLeDiff, Nat.reduceSub, Nat.reduceLT, Int.reduceToNat, Int.reduceLT, Int.reduceLE, reduceCtorEq, Nat.zero_add, Nat.add_zero, and_self, and_true, true_and, ne_eq, not_false_eq_true, not_true_eq_false, decide_true, decide_false, Bool.false_eq_true, Bool.not_true, Bool.not_false, Bool.true_and, Bool.and_true, Bool.or_false, Bool.false_or, Bool.and_self]
    · simp only [go_sem, Int.reduceTMod, Int.reduceTDiv, Int.reduceDiv, Int.reduceMod, Int.reduceAdd, Int.reduceSub, Int.reduceMul, Int.reduceNeg, Int.reducePow, Int.reduceEq, bne_iff_ne, Int.cast_ofNat_Int, ↓reduceIte, Nat.reduceEqDiff, Nat.reduceAdd, Nat.reduceMul, Nat.reduceLeDiff, Nat.reduceSub, Nat.reduceLT, Int.reduceToNat, Int.reduceLT, Int.reduceLE, reduceCtorEq, Nat.zero_add, Nat.add_zero, and_self, and_true, true_and, ne_eq, not_false_eq_true, not_true_eq_false, decide_true, decide_false, Bool.false_eq_true, Bool.not_true, Bool.not_false, Bool.true_and, Bool.and_true, Bool.or_false, Bool.false_or, Bool.and_self]
    · intro j hj
      rw [g3 j (by omega) (fun hs => by have := ho.lt hs; omega)]
      have q0 : (j = n) = False := eq_false (by omega)
      simp only [q0, go_sem, Int.reduceTMod, Int.reduceTDiv, Int.reduceDiv, Int.reduceMod, Int.reduceAdd, Int.reduceSub, Int.reduceMul, Int.reduceNeg, Int.reducePow, Int.reduceEq, bne_iff_ne, Int.cast_ofNat_Int, ↓reduceIte, Nat.reduceEqDiff, Nat.reduceAdd, Nat.reduceMul, Nat.reduceLeDiff, Nat.reduceSub, Nat.reduceLT, Int.reduceToNat, Int.reduceLT, Int.reduceLE, reduceCtorEq, Nat.zero_add, Nat.add_zero, and_self, and_true, true_and, ne_eq, not_false_eq_true, not_true_eq_false, decide_true, decide_false, Bool.false_eq_true, Bool.not_true, Bool.not_false, Bool.true_and, Bool.and_true, Bool.or_false, Bool.false_or, Bool.and_self]
      exact hold j hj
    · rw [htk]
      simp only [go_sem, Int.reduceTMod, Int.reduceTDiv, Int.reduceDiv, Int.reduceMod, Int.reduceAdd, Int.reduceSub, Int.reduceMul, Int.reduceNeg, Int.reducePow, Int.reduceEq, bne_iff_ne, Int.cast_ofNat_Int, ↓reduceIte, Nat.reduceEqDiff, Nat.reduceAdd, Nat.reduceMul, Nat.reduceLeDiff, Nat.reduceSub, Nat.reduceLT, Int.reduceToNat, Int.reduceLT, Int.reduceLE, reduceCtorEq, Nat.zero_add, Nat.add_zero, and_self, and_true, true_and, ne_eq, not_false_eq_true, not_true_eq_false, decide_true, decide_false, Bool.false_eq_true, Bool.not_true, Bool.not_false, Bool.true_and, Bool.and_true, Bool.or_false, Bool.false_or, Bool.and_self]
      exact g2
end Go.Proofs.YtpleidpbapgmiaaDoor.Sy.Cu
