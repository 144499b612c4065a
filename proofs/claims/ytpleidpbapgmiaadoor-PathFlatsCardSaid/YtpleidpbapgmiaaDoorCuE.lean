/- Curves: a curve as lines. Conditions: those that each theorem names. -/
import Derived.Test.YtpleidpbapgmiaaDoorCuD
namespace Go.Proofs.YtpleidpbapgmiaaDoor.Sy.Cu
open Go Go.Proofs
set_option linter.unusedSimpArgs false
set_option linter.unusedVariables false
attribute [local go_sem] R_nil R_mv R_pick R_alloc R_box R_build R_bslice R_load1 R_loadA R_store R_nilchk R_bin R_beq R_eqv R_eqnil R_un R_conv R_mkfn R_mkslice R_slS R_slA R_fadr R_fld R_iadrA R_iadrS R_idxA R_ext R_len R_lenC R_cap R_app R_appz R_cpy R_mn R_mx
  noId Bool.false_or evalOp evO evOs upd_upd upd_at unfrz_at putE_some putE_none Then_some X_seq X_reg X_dreg X_ureg X_ret X_skip X_exit X_block X_condK condK_bool Next_n Next_x Next_r Out_n Out_x Out_r Ret_n Ret_r
  bin_shr1 bin_add bin_sub bin_mul bin_lss bin_leq bin_gtr bin_geq bin_eql bin_neq un_not un_neg boolOf_b boolOf_tup R_guard Option.map_some evRes pack_one pack_two pack_three pack_none List.getD_cons_zero List.getD_cons_succ getD_nil
  Option.some.injEq exists_eq_left' Reg.cs? fillC setL List.set_cons_zero List.set_cons_succ List.length_cons List.length_nil rd_upd rdB wr List.drop_zero List.drop_succ_cons List.take_succ_cons List.take_zero List.getElem?_cons_zero List.getElem?_cons_succ
  ix Int.toNat_zero lenO_sl lenO_nil sn1 ns1 sn2 ns2 sn3 ns3 sn4 ns4 sn5 ns5 sn6 ns6 sn7 ns7 sn8 ns8 sn9 ns9 sn10 ns10 sn11 ns11 sn12 ns12 sk1_2 sk1_3 sk1_4 sk1_5 sk1_6 sk1_7 sk1_8 sk2_1 sk2_3 sk2_4 sk2_5 sk2_6 sk2_7 sk2_8 sk3_1 sk3_2 sk3_4 sk3_5 sk3_6 sk3_7 sk3_8 sk4_1 sk4_2 sk4_3 sk4_5 sk4_6 sk4_7 sk4_8 sk5_1 sk5_2 sk5_3 sk5_4 sk5_6 sk5_7 sk5_8 sk6_1 sk6_2 sk6_3 sk6_4 sk6_5 sk6_7 sk6_8 sk7_1 sk7_2 sk7_3 sk7_4 sk7_5 sk7_6 sk7_8 sk8_1 sk8_2 sk8_3 sk8_4 sk8_5 sk8_6 sk8_7

def Cv.last : Cv → Pt
  | .quad _ _ c => c
  | .cub _ _ _ d => d
/-- A curve as lines. -/
def flat : Nat → Cv → List Pt
  | 0, v => [v.last]
  | d + 1, v => flat d v.fst ++ flat d v.snd

theorem Cv.inP_fst {v : Cv} (h : v.inP = true) : v.fst.inP = true := by
  cases v with
  | quad a b c =>
    simp only [Cv.inP, Bool.and_eq_true] at h
    obtain ⟨⟨ha, hb⟩, hc⟩ := h
    simp only [Cv.fst, Cv.inP, ha, inP_mid ha hb, inP_mid (inP_mid ha hb) (inP_mid hb hc), Bool.and_self]
  | cub a b c d =>
    simp only [Cv.inP, Bool.and_eq_true] at h
    obtain ⟨⟨⟨ha, hb⟩, hc⟩, hd⟩ := h
    have h1 := inP_mid ha hb
    have h2 := inP_mid hb hc
    have h3 := inP_mid hc hd
    simp only [Cv.fst, Cv.inP, ha, h1, inP_mid h1 h2, inP_mid (inP_mid h1 h2) (inP_mid h2 h3), Bool.and_self]
theorem Cv.inP_snd {v : Cv} (h : v.inP = true) : v.snd.inP = true := by
  cases v with
  | quad a b c =>
    simp only [Cv.inP, Bool.and_eq_true] at h
    obtain ⟨⟨ha, hb⟩, hc⟩ := h
    simp only [Cv.snd, Cv.inP, hc, inP_mid hb hc, inP_mid (inP_mid ha hb) (inP_mid hb hc), Bool.and_self]
  | cub a b c d =>
    simp only [Cv.inP, Bool.and_eq_true] at h
    obtain ⟨⟨⟨ha, hb⟩, hc⟩, hd⟩ := h
    have h1 := inP_mid ha hb
    have h2 := inP_mid hb hc
    have h3 := inP_mid hc hd
    simp only [Cv.snd, Cv.inP, hd, h3, inP_mid h2 h3, inP_mid (inP_mid h1 h2) (inP_mid h2 h3), Bool.and_self]

theorem flat_length (d : Nat) : ∀ v, (flat d v).length = 2 ^ d := by
  induction d with
  | zero => intro v; rfl
  | succ d ih => intro v; rw [flat, List.length_append, ih, ih, Nat.pow_succ]; omega

/-- What waits. -/
abbrev encW (l : List (Cv × Nat)) : List Cell := l.flatMap fun x => x.1.row ++ [I x.2]
theorem row9 (v : Cv) : v.row.length = 9 := by cases v <;> rfl
theorem encW10 (x : Cv × Nat) : (x.1.row ++ [I x.2]).length = 10 := by rw [List.length_append, row9]; rfl

def goes (l : List (Cv × Nat)) : List Pt := (l.reverse.map fun x => flat x.2 x.1).flatten
def work (l : List (Cv × Nat)) : Nat := (l.map fun x => 2 ^ (x.2 + 1) - 1).sum
def outs (l : List (Cv × Nat)) : Nat := (l.map fun x => 2 ^ x.2).sum

theorem goes_snoc (l : List (Cv × Nat)) (v : Cv) (d : Nat) : goes (l ++ [(v, d)]) = flat d v ++ goes l := by simp [goes]
theorem work_snoc (l : List (Cv × Nat)) (v : Cv) (d : Nat) : work (l ++ [(v, d)]) = work l + (2 ^ (d + 1) - 1) := by simp [work]
theorem outs_snoc (l : List (Cv × Nat)) (v : Cv) (d : Nat) : outs (l ++ [(v, d)]) = outs l + 2 ^ d := by simp [outs]
theorem len_outs (l : List (Cv × Nat)) : l.length ≤ outs l := by
  induction l with
  | nil => simp [outs]
  | cons x l ih =>
    have : 1 ≤ 2 ^ x.2 := Nat.one_le_two_pow
    simp only [outs, List.map_cons, List.sum_cons, List.length_cons] at ih ⊢
    omega

structure FInv (n0 : Nat) (m0 : Mem) (all : List Pt) (st : List (Cv × Nat)) (acc : List Pt) (r7 r8 : Reg) (m : Mem) (n : Nat) : Prop where
  nn : n0 ≤ n
  old : ∀ id, id < n0 → m id = m0 id
  out : Ow n0 m n r7 (encP acc) acc.length 2
  stk : ∃ id cap b, r8 = .one (.sl id 0 st.length cap 10) ∧ n0 ≤ id ∧ id < n ∧ m id = some b ∧ b.own = true ∧ rd m id 0 (st.length * 10) = some (encW st) ∧ sid r7 ≠ some id ∧ (cap = none ∨ (cap = some 1 ∧ st.length ≤ 1))
  inp : ∀ x ∈ st, x.1.inP = true ∧ x.2 ≤ 6
  goes : acc ++ Cu.goes st = all
  small : acc.length + outs st ≤ 64

theorem row_last (v : Cv) : ∃ n : Nat, (n = 3 ∨ n = 4) ∧ v.row[8]? = some (I n) ∧ ((v.row.drop ((n - 1) * 2)).take 2) = v.last.cs := by
  cases v with
  | quad a b c => exact ⟨3, Or.inl rfl, rfl, rfl⟩
  | cub a b c d => exact ⟨4, Or.inr rfl, rfl, rfl⟩

set_option maxHeartbeats 4000000 in
theorem flatLoop (n0 : Nat) (m0 : Mem) (all : List Pt) : ∀ (k : Nat) (st : List (Cv × Nat)) (acc : List Pt) (s : St), work st ≤ k → FInv n0 m0 all st acc (s.e 7) (s.e 8) s.m s.n →
    X TA (.loop l34_0) s (fun e s' => e = .x 0 ∧ n0 ≤ s'.n ∧ (∀ id, id < n0 → s'.m id = m0 id) ∧ Ow n0 s'.m s'.n (s'.e 7) (encP all) all.length 2) := by
  obtain ⟨L, hL⟩ : ∃ L_, L_ = SC.loop l34_0 := ⟨_, rfl⟩
  have hX : ∀ s Q, X TA l34_0 s (Next Q (fun s_ => X TA L s_ Q)) → X TA L s Q := by subst hL; exact fun _ _ h => X_loop h
  rw [← hL]
  intro k
  induction k with
  | zero =>
    intro st acc s hk hI
    have h0 : st = [] := by
      cases st with
      | nil => rfl
      | cons x st =>
        have : 1 ≤ 2 ^ x.2 := Nat.one_le_two_pow
        simp only [work, List.map_cons, List.sum_cons, Nat.pow_succ] at hk
        omega
    subst h0
    obtain ⟨id, cap, b, h8, _⟩ := hI.stk
    have hg := hI.goes
    simp only [goes, List.reverse_nil, List.map_nil, List.flatten_nil, List.append_nil] at hg
    refine hX _ _ ?_
    simp only [l34_0, r34_8, h8, Int.natCast_zero, Int.lt_irrefl, go_sem, Int.reduceTMod, Int.reduceTDiv, Int.reduceDiv, Int.reduceMod, Int.reduceAdd, Int.reduceSub, Int.reduceMul, Int.reduceNeg, Int.reducePow, Int.reduceEq, bne_iff_ne, Int.cast_ofNat_Int, ↓reduceIte, Nat.reduceEqDiff, Nat.reduceAdd, Nat.reduceMul, Nat.reduceLeDiff, Nat.reduceSub, Nat.reduceLT, Int.reduceToNat, Int.reduceLT, Int.reduceLE, reduceCtorEq, Nat.zero_add, Nat.add_zero, and_self, and_true, true_and, ne_eq, not_false_eq_true, not_true_eq_false, decide_true, decide_false, Bool.false_eq_true, Bool.not_true, Bool.not_false, Bool.true_and, Bool.and_true, Bool.or_false, Bool.false_or, Bool.and_self]
    exact ⟨hI.nn, hI.old, hg ▸ hI.out⟩
  | succ k ih =>
    intro st acc s hk hI
    rcases List.eq_nil_or_concat st with rfl | ⟨st, ⟨v, d⟩, rfl⟩
    · obtain ⟨id, cap, b, h8, _⟩ := hI.stk
      have hg := hI.goes
      simp only [goes, List.reverse_nil, List.map_nil, List.flatten_nil, List.append_nil] at hg
      refine hX _ _ ?_
      simp only [l34_0, r34_8, h8, Int.natCast_zero, Int.lt_irrefl, go_sem, Int.reduceTMod, Int.reduceTDiv, Int.reduceDiv, Int.reduceMod, Int.reduceAdd, Int.reduceSub, Int.reduceMul, Int.reduceNeg, Int.reducePow, Int.reduceEq, bne_iff_ne, Int.cast_ofNat_Int, ↓reduceIte, Nat.reduceEqDiff, Nat.reduceAdd, Nat.reduceMul, Nat.reduceLeDiff, Nat.reduceSub, Nat.reduceLT, Int.reduceToNat, Int.reduceLT, Int.reduceLE, reduceCtorEq, Nat.zero_add, Nat.add_zero, and_self, and_true, true_and, ne_eq, not_false_eq_true, not_true_eq_false, decide_true, decide_false, Bool.false_eq_true, Bool.not_true, Bool.not_false, Bool.true_and, Bool.and_true, Bool.or_false, Bool.false_or, Bool.and_self]
      exact ⟨hI.nn, hI.old, hg ▸ hI.out⟩
    · rw [List.concat_eq_append] at hI hk
      obtain ⟨id, cap, b, h8, hid0, hid, hb, hown, hrd, hne, hcap⟩ := hI.stk
      obtain ⟨hv, hd6⟩ := hI.inp (v, d) (by simp)
      have hsm := hI.small
      rw [outs_snoc] at hsm
      have hlo := len_outs st
      have hpos : 1 ≤ 2 ^ d := Nat.one_le_two_pow
      have hlen : (st ++ [(v, d)]).length = st.length + 1 := by simp
      rw [hlen] at h8 hrd hcap
      have e1 : (((st.length + 1 : Nat) : Int)) = (st.length : Int) + 1 := rfl
      have hgt : (0 : Int) < (st.length : Int) + 1 := by omega
      have hw1 : IntKind.i64.wrap ((st.length : Int) + 1 - 1) = (st.length : Int) := by rw [wr_eq (by omega) (by omega)]; omega
      have hle0 : (0 : Int) ≤ (st.length : Int) := by omega
      have hlt1 : (st.length : Int) < (st.length : Int) + 1 := by omega
      have hle1 : (st.length : Int) ≤ (st.length : Int) + 1 := by omega
      have hat : rd s.m id (st.length * 10) 10 = some (v.row ++ [I d]) := by
        have := rd_at (enc := fun x : Cv × Nat => x.1.row ++ [I x.2]) encW10 (l := st ++ [(v, d)]) (i := st.length) (x := (v, d)) (by rw [hlen]; exact hrd) (by simp)
        simpa using this
      have hrow : (v.row ++ [I (d : Int)]).length = 10 := encW10 (v, d)
      have h9 : (v.row ++ [I (d : Int)])[9]? = some (I d) := by
        rw [List.getElem?_append_right (by rw [row9]; exact Nat.le_refl _), row9]; rfl
      have hset : Sy.setL (List.replicate 10 (.sc (.int .i64 0))) 0 (v.row ++ [I (d : Int)]) = v.row ++ [I d] := by
        cases v <;> rfl
      obtain ⟨cap', hbn, hcap'⟩ : ∃ cap', bnds (st.length + 1) cap none (some (RI st.length)) none = some (0, st.length, cap') ∧ (cap' = none ∨ (cap' = some 1 ∧ st.length = 0)) := by
        rcases hcap with rfl | ⟨rfl, h⟩
        · exact ⟨none, by simp [bnds, bMax, bHigh, bLow, inR, ix, hle0, hle1], Or.inl rfl⟩
        · have h0 : st.length = 0 := by omega
          exact ⟨some 1, by simp [bnds, bMax, bHigh, bLow, inR, ix, h0], Or.inr ⟨rfl, h0⟩⟩
      have hids : (id = s.n) = False := lt0 hid
      have hrd' : rd s.m id 0 (st.length * 10) = some (encW st) := by
        have := rd_part (a := 0) (b := st.length * 10) hrd (by omega)
        rw [Nat.add_zero] at this
        rw [this, List.drop_zero, encW, List.flatMap_append, List.take_append_of_le_length (by rw [flatMap_len _ 10 encW10]; exact Nat.le_refl _), List.take_of_length_le (by rw [flatMap_len _ 10 encW10]; exact Nat.le_refl _)]
      have hwk := hk
      rw [work_snoc] at hwk
      have hinp : ∀ x ∈ st, x.1.inP = true ∧ x.2 ≤ 6 := fun x hx => hI.inp x (by simp [hx])
      have hgo := hI.goes
      rw [goes_snoc] at hgo
      have hold : ∀ i, i < n0 → i ≠ s.n ∧ i ≠ s.n + 1 ∧ i ≠ s.n + 1 + 1 ∧ i ≠ s.n + 1 + 1 + 1 ∧ i ≠ s.n + 1 + 1 + 1 + 1 := fun i hi => by have := hI.nn; omega
      have hout := hI.out
      have hsid : ∀ i, sid (s.e 7) = some i → n0 ≤ i ∧ i < s.n := by
        intro i hi
        rcases hout with ⟨h, _⟩ | ⟨j, h, h1, h2, _⟩
        · rw [h] at hi; cases hi
        · rw [h] at hi; simp only [sid, Option.some.injEq] at hi; subst hi; exact ⟨h1, h2⟩
      have hpush : 2 ^ (d + 1) = 2 * 2 ^ d := by rw [Nat.pow_succ]; omega
      refine hX _ _ ?_
      cases d with
      | zero =>
        have hv' := hv
        have hnew : ∀ (p : Pt), newsOf (upd (upd s.m s.n (some ⟨v.row ++ [I (0 : Nat)], true⟩)) (s.n + 1) (some ⟨p.cs, true⟩)) 2 (.one (.sl (s.n + 1) 0 1 (some 1) 2)) = some (1, p.cs) := fun p => by
          simp only [newsOf, go_sem, Int.reduceTMod, Int.reduceTDiv, Int.reduceDiv, Int.reduceMod, Int.reduceAdd, Int.reduceSub, Int.reduceMul, Int.reduceNeg, Int.reducePow, Int.reduceEq, bne_iff_ne, Int.cast_ofNat_Int, ↓reduceIte, Nat.reduceEqDiff, Nat.reduceAdd, Nat.reduceMul, Nat.reduceLeDiff, Nat.reduceSub, Nat.reduceLT, Int.reduceToNat, Int.reduceLT, Int.reduceLE, reduceCtorEq, Nat.zero_add, Nat.add_zero, and_self, and_true, true_and, ne_eq, not_false_eq_true, not_true_eq_false, decide_true, decide_false, Bool.false_eq_true, Bool.not_true, Bool.not_false, Bool.true_and, Bool.and_true, Bool.or_false, Bool.false_or, Bool.and_self]
        have hkeep : Ow n0 (upd (upd s.m s.n (some ⟨v.row ++ [I (0 : Nat)], true⟩)) (s.n + 1) (some ⟨v.last.cs, true⟩)) (s.n + 1 + 1) (s.e 7) (encP acc) acc.length 2 :=
          hout.keep (by omega) (fun i hi => by have := hsid i hi; simp only [lt0 this.2, lt1 this.2, go_sem, Int.reduceTMod, Int.reduceTDiv, Int.reduceDiv, Int.reduceMod, Int.reduceAdd, Int.reduceSub, Int.reduceMul, Int.reduceNeg, Int.reducePow, Int.reduceEq, bne_iff_ne, Int.cast_ofNat_Int, ↓reduceIte, Nat.reduceEqDiff, Nat.reduceAdd, Nat.reduceMul, Nat.reduceLeDiff, Nat.reduceSub, Nat.reduceLT, Int.reduceToNat, Int.reduceLT, Int.reduceLE, reduceCtorEq, Nat.zero_add, Nat.add_zero, and_self, and_true, true_and, ne_eq, not_false_eq_true, not_true_eq_false, decide_true, decide_false, Bool.false_eq_true, Bool.not_true, Bool.not_false, Bool.true_and, Bool.and_true, Bool.or_false, Bool.false_or, Bool.and_self])
        obtain ⟨m', h1, h2, h3⟩ := Ow.app (by' := 16) hkeep (by have := hI.nn; omega) (hnew v.last) (by omega) (by omega) rfl
        have hfin : FInv n0 m0 all st (acc ++ [v.last]) (.one (.sl (s.n + 1 + 1) 0 (acc.length + 1) none 2)) (.one (.sl id 0 st.length cap' 10)) m' (s.n + 1 + 1 + 1) := by
          refine ⟨by have := hI.nn; omega, fun i hi => ?_, ?_, ⟨id, cap', b, rfl, hid0, by omega, ?_, hown, ?_, ?_, ?_⟩, hinp, ?_, ?_⟩
          · obtain ⟨q1, q2, q3, _⟩ := hold i hi
            rw [h3 i q3 (fun j hj => by have := hsid j hj; omega)]
            have e1 : (i = s.n) = False := eq_false q1
            have e2 : (i = s.n + 1) = False := eq_false q2
            simp only [e1, e2, go_sem, Int.reduceTMod, Int.reduceTDiv, Int.reduceDiv, Int.reduceMod, Int.reduceAdd, Int.reduceSub, Int.reduceMul, Int.reduceNeg, Int.reducePow, Int.reduceEq, bne_iff_ne, Int.cast_ofNat_Int, ↓reduceIte, Nat.reduceEqDiff, Nat.reduceAdd, Nat.reduceMul, Nat.reduceLeDiff, Nat.reduceSub, Nat.reduceLT, Int.reduceToNat, Int.reduceLT, Int.reduceLE, reduceCtorEq, Nat.zero_add, Nat.add_zero, and_self, and_true, true_and, ne_eq, not_false_eq_true, not_true_eq_false, decide_true, decide_false, Bool.false_eq_true, Bool.not_true, Bool.not_false, Bool.true_and, Bool.and_true, Bool.or_false, Bool.false_or, Bool.and_self]
            exact hI.old i hi
          · simpa [encP, List.flatMap_append] using h2
          · rw [h3 id (by omega) (fun j hj e => hne (by rw [hj, e]))]
            simp only [hids, lt1 hid, go_sem, Int.reduceTMod, Int.reduceTDiv, Int.reduceDiv, Int.reduceMod, Int.reduceAdd, Int.reduceSub, Int.reduceMul, Int.reduceNeg, Int.reducePow, Int.reduceEq, bne_iff_ne, Int.cast_ofNat_Int, ↓reduceIte, Nat.reduceEqDiff, Nat.reduceAdd, Nat.reduceMul, Nat.reduceLeDiff, Nat.reduceSub, Nat.reduceLT, Int.reduceToNat, Int.reduceLT, Int.reduceLE, reduceCtorEq, Nat.zero_add, Nat.add_zero, and_self, and_true, true_and, ne_eq, not_false_eq_true, not_true_eq_false, decide_true, decide_false, Bool.false_eq_true, Bool.not_true, Bool.not_false, Bool.true_and, Bool.and_true, Bool.or_false, Bool.false_or, Bool.and_self]
            exact hb
          · have : rd m' id 0 (st.length * 10) = rd s.m id 0 (st.length * 10) := by
              unfold rd
              rw [h3 id (by omega) (fun j hj e => hne (by rw [hj, e]))]
              simp only [hids, lt1 hid, go_sem, Int.reduceTMod, Int.reduceTDiv, Int.reduceDiv, Int.reduceMod, Int.reduceAdd, Int.reduceSub, Int.reduceMul, Int.reduceNeg, Int.reducePow, Int.reduceEq, bne_iff_ne, Int.cast_ofNat_Int, ↓reduceIte, Nat.reduceEqDiff, Nat.reduceAdd, Nat.reduceMul, Nat.reduceLeDiff, Nat.reduceSub, Nat.reduceLT, Int.reduceToNat, Int.reduceLT, Int.reduceLE, reduceCtorEq, Nat.zero_add, Nat.add_zero, and_self, and_true, true_and, ne_eq, not_false_eq_true, not_true_eq_false, decide_true, decide_false, Bool.false_eq_true, Bool.not_true, Bool.not_false, Bool.true_and, Bool.and_true, Bool.or_false, Bool.false_or, Bool.and_self]
            rw [this]; exact hrd'
          · simp only [sid, go_sem, Int.reduceTMod, Int.reduceTDiv, Int.reduceDiv, Int.reduceMod, Int.reduceAdd, Int.reduceSub, Int.reduceMul, Int.reduceNeg, Int.reducePow, Int.reduceEq, bne_iff_ne, Int.cast_ofNat_Int, ↓reduceIte, Nat.reduceEqDiff, Nat.reduceAdd, Nat.reduceMul, Nat.reduceLeDiff, Nat.reduceSub, Nat.reduceLT, Int.reduceToNat, Int.reduceLT, Int.reduceLE, reduceCtorEq, Nat.zero_add, Nat.add_zero, and_self, and_true, true_and, ne_eq, not_false_eq_true, not_true_eq_false, decide_true, decide_false, Bool.false_eq_true, Bool.not_true, Bool.not_false, Bool.true_and, Bool.and_true, Bool.or_false, Bool.false_or, Bool.and_self]; omega
          · rcases hcap' with rfl | ⟨rfl, h⟩
            · exact Or.inl rfl
            · exact Or.inr ⟨rfl, by omega⟩
          · rw [← hgo]; simp [flat]
          · simp only [List.length_append, List.length_cons, List.length_nil] at hsm ⊢; omega
        have wi : ∀ k : Int, -100 ≤ k → k ≤ 100 → IntKind.i64.wrap k = k := fun k h1 h2 => wr_eq (by omega) (by omega)
        have z0 : ((0 : Nat) : Int) = 0 := rfl
        have fin : ∀ (e : Nat → Reg), e 7 = .one (.sl (s.n + 1 + 1) 0 (acc.length + 1) none 2) → e 8 = .one (.sl id 0 st.length cap' 10) → X TA L ⟨e, m', s.n + 1 + 1 + 1⟩ (fun e s' => e = .x 0 ∧ n0 ≤ s'.n ∧ (∀ id, id < n0 → s'.m id = m0 id) ∧ Ow n0 s'.m s'.n (s'.e 7) (encP all) all.length 2) := by
          intro e h7 h8
          refine ih st (acc ++ [v.last]) _ (by omega) ?_
          simp only [h7, h8]
          exact hfin
        cases v with
        | quad a b' c =>
          simp only [Cv.row, List.cons_append, List.nil_append, z0] at hat h1
          simp only [Cv.last] at h1 fin
          simp only [l34_0, r34_8, h8, e1, hgt, r34_9, hw1, hle0, hlt1, Int.toNat_natCast, hat, List.replicate, r34_10, Option.map_none, hbn, Nat.zero_mul, Nat.sub_zero, r34_11, Int.natCast_zero, r34_12, wi, Int.reduceSub, Int.reduceNeg, h1, go_sem, Int.reduceTMod, Int.reduceTDiv, Int.reduceDiv, Int.reduceMod, Int.reduceAdd, Int.reduceSub, Int.reduceMul, Int.reduceNeg, Int.reducePow, Int.reduceEq, bne_iff_ne, Int.cast_ofNat_Int, ↓reduceIte, Nat.reduceEqDiff, Nat.reduceAdd, Nat.reduceMul, Nat.reduceLeDiff, Nat.reduceSub, Nat.reduceLT, Int.reduceToNat, Int.reduceLT, Int.reduceLE, reduceCtorEq, Nat.zero_add, Nat.add_zero, and_self, and_true, true_and, ne_eq, not_false_eq_true, not_true_eq_false, decide_true, decide_false, Bool.false_eq_true, Bool.not_true, Bool.not_false, Bool.true_and, Bool.and_true, Bool.or_false, Bool.false_or, Bool.and_self]
          refine fin _ ?_ ?_ <;> simp only [go_sem, Int.reduceTMod, Int.reduceTDiv, Int.reduceDiv, Int.reduceMod, Int.reduceAdd, Int.reduceSub, Int.reduceMul, Int.reduceNeg, Int.reducePow, Int.reduceEq, bne_iff_ne, Int.cast_ofNat_Int, ↓reduceIte, Nat.reduceEqDiff, Nat.reduceAdd, Nat.reduceMul, Nat.reduceLeDiff, Nat.reduceSub, Nat.reduceLT, Int.reduceToNat, Int.reduceLT, Int.reduceLE, reduceCtorEq, Nat.zero_add, Nat.add_zero, and_self, and_true, true_and, ne_eq, not_false_eq_true, not_true_eq_false, decide_true, decide_false, Bool.false_eq_true, Bool.not_true, Bool.not_false, Bool.true_and, Bool.and_true, Bool.or_false, Bool.false_or, Bool.and_self]
        | cub a b' c d' =>
          simp only [Cv.row, List.cons_append, List.nil_append, z0] at hat h1
          simp only [Cv.last] at h1 fin
          simp only [l34_0, r34_8, h8, e1, hgt, r34_9, hw1, hle0, hlt1, Int.toNat_natCast, hat, List.replicate, r34_10, Option.map_none, hbn, Nat.zero_mul, Nat.sub_zero, r34_11, Int.natCast_zero, r34_12, wi, Int.reduceSub, Int.reduceNeg, h1, go_sem, Int.reduceTMod, Int.reduceTDiv, Int.reduceDiv, Int.reduceMod, Int.reduceAdd, Int.reduceSub, Int.reduceMul, Int.reduceNeg, Int.reducePow, Int.reduceEq, bne_iff_ne, Int.cast_ofNat_Int, ↓reduceIte, Nat.reduceEqDiff, Nat.reduceAdd, Nat.reduceMul, Nat.reduceLeDiff, Nat.reduceSub, Nat.reduceLT, Int.reduceToNat, Int.reduceLT, Int.reduceLE, reduceCtorEq, Nat.zero_add, Nat.add_zero, and_self, and_true, true_and, ne_eq, not_false_eq_true, not_true_eq_false, decide_true, decide_false, Bool.false_eq_true, Bool.not_true, Bool.not_false, Bool.true_and, Bool.and_true, Bool.or_false, Bool.false_or, Bool.and_self]
          refine fin _ ?_ ?_ <;> simp only [go_sem, Int.reduceTMod, Int.reduceTDiv, Int.reduceDiv, Int.reduceMod, Int.reduceAdd, Int.reduceSub, Int.reduceMul, Int.reduceNeg, Int.reducePow, Int.reduceEq, bne_iff_ne, Int.cast_ofNat_Int, ↓reduceIte, Nat.reduceEqDiff, Nat.reduceAdd, Nat.reduceMul, Nat.reduceLeDiff, Nat.reduceSub, Nat.reduceLT, Int.reduceToNat, Int.reduceLT, Int.reduceLE, reduceCtorEq, Nat.zero_add, Nat.add_zero, and_self, and_true, true_and, ne_eq, not_false_eq_true, not_true_eq_false, decide_true, decide_false, Bool.false_eq_true, Bool.not_true, Bool.not_false, Bool.true_and, Bool.and_true, Bool.or_false, Bool.false_or, Bool.and_self]
      | succ d =>
        have hnews : ∀ (m : Mem) (n : Nat), newsOf (upd m n (some ⟨encW [(v.snd, d), (v.fst, d)], true⟩)) 10 (.one (.sl n 0 2 (some 2) 10)) = some (2, encW [(v.snd, d), (v.fst, d)]) := by
          intro m n
          have hl : (encW [(v.snd, d), (v.fst, d)]).length = 20 := by rw [flatMap_len _ 10 encW10]; rfl
          simp only [newsOf, hl, go_sem, Int.reduceTMod, Int.reduceTDiv, Int.reduceDiv, Int.reduceMod, Int.reduceAdd, Int.reduceSub, Int.reduceMul, Int.reduceNeg, Int.reducePow, Int.reduceEq, bne_iff_ne, Int.cast_ofNat_Int, ↓reduceIte, Nat.reduceEqDiff, Nat.reduceAdd, Nat.reduceMul, Nat.reduceLeDiff, Nat.reduceSub, Nat.reduceLT, Int.reduceToNat, Int.reduceLT, Int.reduceLE, reduceCtorEq, Nat.zero_add, Nat.add_zero, and_self, and_true, true_and, ne_eq, not_false_eq_true, not_true_eq_false, decide_true, decide_false, Bool.false_eq_true, Bool.not_true, Bool.not_false, Bool.true_and, Bool.and_true, Bool.or_false, Bool.false_or, Bool.and_self]
          rw [List.take_of_length_le (by rw [hl]; exact Nat.le_refl _)]
        let M : Mem := upd (upd (upd (upd (upd (upd s.m s.n (some ⟨v.row ++ [I ((d + 1 : Nat) : Int)], true⟩)) (s.n + 1) (some ⟨List.replicate 9 (I 0), true⟩)) (s.n + 1 + 1) (some ⟨List.replicate 9 (I 0), true⟩)) (s.n + 1) (some ⟨v.fst.row, true⟩)) (s.n + 1 + 1) (some ⟨v.snd.row, true⟩)) (s.n + 1 + 1 + 1) (some ⟨encW [(v.snd, d), (v.fst, d)], true⟩)
        have hMid : ∀ i, i < s.n → M i = s.m i := fun i hi => by
          simp only [M]
          simp only [lt0 hi, lt1 hi, lt2 hi, lt3 hi, go_sem, Int.reduceTMod, Int.reduceTDiv, Int.reduceDiv, Int.reduceMod, Int.reduceAdd, Int.reduceSub, Int.reduceMul, Int.reduceNeg, Int.reducePow, Int.reduceEq, bne_iff_ne, Int.cast_ofNat_Int, ↓reduceIte, Nat.reduceEqDiff, Nat.reduceAdd, Nat.reduceMul, Nat.reduceLeDiff, Nat.reduceSub, Nat.reduceLT, Int.reduceToNat, Int.reduceLT, Int.reduceLE, reduceCtorEq, Nat.zero_add, Nat.add_zero, and_self, and_true, true_and, ne_eq, not_false_eq_true, not_true_eq_false, decide_true, decide_false, Bool.false_eq_true, Bool.not_true, Bool.not_false, Bool.true_and, Bool.and_true, Bool.or_false, Bool.false_or, Bool.and_self]
        have hMrd : rd M id 0 (st.length * 10) = some (encW st) := by
          have : rd M id 0 (st.length * 10) = rd s.m id 0 (st.length * 10) := by unfold rd; rw [hMid id hid]
          rw [this]; exact hrd'
        obtain ⟨m', h1, h2, h3⟩ := evApp_push (m := M) (n := s.n + 1 + 1 + 1 + 1) (by' := 80) (hnews _ _) (by omega) (by omega) ((hMid id hid).trans hb) hown hMrd (show cap' = none ∨ ∃ c, cap' = some c ∧ c < st.length + 2 by
          rcases hcap' with h | ⟨h, h'⟩
          · exact Or.inl h
          · exact Or.inr ⟨1, h, by omega⟩)
        have hst2 : encW st ++ encW [(v.snd, d), (v.fst, d)] = encW (st ++ [(v.snd, d), (v.fst, d)]) := by simp only [encW, List.flatMap_append]
        have hlen2 : (st ++ [(v.snd, d), (v.fst, d)]).length = st.length + 2 := by simp
        have hfin : FInv n0 m0 all (st ++ [(v.snd, d), (v.fst, d)]) acc (s.e 7) (.one (.sl (s.n + 1 + 1 + 1 + 1) 0 (st.length + 2) none 10)) m' (s.n + 1 + 1 + 1 + 1 + 1) := by
          refine ⟨by have := hI.nn; omega, fun i hi => ?_, ?_, ⟨s.n + 1 + 1 + 1 + 1, none, _, by rw [hlen2], by have := hI.nn; omega, by omega, h2, rfl, ?_, ?_, Or.inl rfl⟩, ?_, ?_, ?_⟩
          · rw [h3 i (by have := hI.nn; omega) (by omega), hMid i (by have := hI.nn; omega)]
            exact hI.old i hi
          · exact hout.keep (by omega) (fun i hi => by
              have := hsid i hi
              rw [h3 i (by omega) (fun e => hne (by rw [hi, e])), hMid i this.2])
          · have hl : (encW (st ++ [(v.snd, d), (v.fst, d)])).length = (st ++ [(v.snd, d), (v.fst, d)]).length * 10 := flatMap_len _ 10 encW10 _
            unfold rd
            rw [h2]
            simp only [hst2, Nat.zero_add, List.drop_zero]
            rw [if_pos (by rw [hl]; exact Nat.le_refl _), ← hl, List.take_length]
          · intro e
            have := hsid _ e
            omega
          · intro x hx
            rw [List.mem_append] at hx
            rcases hx with hx | hx
            · exact hinp x hx
            · simp only [List.mem_cons, List.not_mem_nil, or_false] at hx
              simp only at hd6 hv
              rcases hx with rfl | rfl
              · exact ⟨Cv.inP_snd hv, by omega⟩
              · exact ⟨Cv.inP_fst hv, by omega⟩
          · rw [show st ++ [(v.snd, d), (v.fst, d)] = (st ++ [(v.snd, d)]) ++ [(v.fst, d)] by simp, goes_snoc, goes_snoc, ← hgo]
            simp [flat]
          · rw [show st ++ [(v.snd, d), (v.fst, d)] = (st ++ [(v.snd, d)]) ++ [(v.fst, d)] by simp, outs_snoc, outs_snoc]
            omega
        have hwork2 : work (st ++ [(v.snd, d), (v.fst, d)]) ≤ k := by
          rw [show st ++ [(v.snd, d), (v.fst, d)] = (st ++ [(v.snd, d)]) ++ [(v.fst, d)] by simp, work_snoc, work_snoc]
          have h5 : 2 ^ (d + 1 + 1) = 2 * 2 ^ (d + 1) := by rw [Nat.pow_succ 2 (d + 1)]; omega
          have h6 : 1 ≤ 2 ^ (d + 1) := Nat.one_le_two_pow
          omega
        have fin : ∀ (e : Nat → Reg), e 7 = s.e 7 → e 8 = .one (.sl (s.n + 1 + 1 + 1 + 1) 0 (st.length + 2) none 10) → X TA L ⟨e, m', s.n + 1 + 1 + 1 + 1 + 1⟩ (fun e s' => e = .x 0 ∧ n0 ≤ s'.n ∧ (∀ id, id < n0 → s'.m id = m0 id) ∧ Ow n0 s'.m s'.n (s'.e 7) (encP all) all.length 2) := by
          intro e h7 h8
          refine ih _ acc _ hwork2 ?_
          simp only [h7, h8]
          exact hfin
        have hd0 : ¬ (((d + 1 : Nat) : Int) = 0) := by omega
        have hw2 : IntKind.i64.wrap (((d + 1 : Nat) : Int) - 1) = (d : Int) := by rw [wr_eq (by omega) (by omega)]; omega
        simp only at hv
        have hhal := halves61 v hv (fun _ => none) 1
        have wi : ∀ k : Int, -100 ≤ k → k ≤ 100 → IntKind.i64.wrap k = k := fun k h1 h2 => wr_eq (by omega) (by omega)
        cases v with
        | quad a b' c =>
          simp only [M, encW, List.flatMap_cons, List.flatMap_nil, Cv.fst, Cv.snd, Cv.row, List.cons_append, List.nil_append, List.append_nil, List.replicate] at hat h1 hhal
          simp only [l34_0, r34_8, h8, e1, hgt, r34_9, hw1, hle0, hlt1, Int.toNat_natCast, hat, List.replicate, r34_10, Option.map_none, hbn, Nat.zero_mul, Nat.sub_zero, r34_11, hd0, r34_13, go_sem, Int.reduceTMod, Int.reduceTDiv, Int.reduceDiv, Int.reduceMod, Int.reduceAdd, Int.reduceSub, Int.reduceMul, Int.reduceNeg, Int.reducePow, Int.reduceEq, bne_iff_ne, Int.cast_ofNat_Int, ↓reduceIte, Nat.reduceEqDiff, Nat.reduceAdd, Nat.reduceMul, Nat.reduceLeDiff, Nat.reduceSub, Nat.reduceLT, Int.reduceToNat, Int.reduceLT, Int.reduceLE, reduceCtorEq, Nat.zero_add, Nat.add_zero, and_self, and_true, true_and, ne_eq, not_false_eq_true, not_true_eq_false, decide_true, decide_false, Bool.false_eq_true, Bool.not_true, Bool.not_false, Bool.true_and, Bool.and_true, Bool.or_false, Bool.false_or, Bool.and_self]
          refine R_callz (by first | (simp only [flats, Reg.flat, Cell.flat, List.all_cons, List.all_nil, Bool.and_self, go_sem, Int.reduceTMod, Int.reduceTDiv, Int.reduceDiv, Int.reduceMod, Int.reduceAdd, Int.reduceSub, Int.reduceMul, Int.reduceNeg, Int.reducePow, Int.reduceEq, bne_iff_ne, Int.cast_ofNat_Int, ↓reduceIte, Nat.reduceEqDiff, Nat.reduceAdd, Nat.reduceMul, Nat.reduceLeDiff, Nat.reduceSub, Nat.reduceLT, Int.reduceToNat, Int.reduceLT, Int.reduceLE, reduceCtorEq, Nat.zero_add, Nat.add_zero, and_self, and_true, true_and, ne_eq, not_false_eq_true, not_true_eq_false, decide_true, decide_false, Bool.false_eq_true, Bool.not_true, Bool.not_false, Bool.true_and, Bool.and_true, Bool.or_false, Bool.false_or, Bool.and_self]; done) | rfl) ?_
          try simp only [go_sem, Int.reduceTMod, Int.reduceTDiv, Int.reduceDiv, Int.reduceMod, Int.reduceAdd, Int.reduceSub, Int.reduceMul, Int.reduceNeg, Int.reducePow, Int.reduceEq, bne_iff_ne, Int.cast_ofNat_Int, ↓reduceIte, Nat.reduceEqDiff, Nat.reduceAdd, Nat.reduceMul, Nat.reduceLeDiff, Nat.reduceSub, Nat.reduceLT, Int.reduceToNat, Int.reduceLT, Int.reduceLE, reduceCtorEq, Nat.zero_add, Nat.add_zero, and_self, and_true, true_and, ne_eq, not_false_eq_true, not_true_eq_false, decide_true, decide_false, Bool.false_eq_true, Bool.not_true, Bool.not_false, Bool.true_and, Bool.and_true, Bool.or_false, Bool.false_or, Bool.and_self]
          refine Fn.mono (hhal) ?_
          rintro _ _ _ rfl
          refine ⟨rfl, ?_⟩
          try simp only [hw2, r34_14, List.replicate, h1, go_sem, Int.reduceTMod, Int.reduceTDiv, Int.reduceDiv, Int.reduceMod, Int.reduceAdd, Int.reduceSub, Int.reduceMul, Int.reduceNeg, Int.reducePow, Int.reduceEq, bne_iff_ne, Int.cast_ofNat_Int, ↓reduceIte, Nat.reduceEqDiff, Nat.reduceAdd, Nat.reduceMul, Nat.reduceLeDiff, Nat.reduceSub, Nat.reduceLT, Int.reduceToNat, Int.reduceLT, Int.reduceLE, reduceCtorEq, Nat.zero_add, Nat.add_zero, and_self, and_true, true_and, ne_eq, not_false_eq_true, not_true_eq_false, decide_true, decide_false, Bool.false_eq_true, Bool.not_true, Bool.not_false, Bool.true_and, Bool.and_true, Bool.or_false, Bool.false_or, Bool.and_self]
          refine fin _ ?_ ?_ <;> simp only [go_sem, Int.reduceTMod, Int.reduceTDiv, Int.reduceDiv, Int.reduceMod, Int.reduceAdd, Int.reduceSub, Int.reduceMul, Int.reduceNeg, Int.reducePow, Int.reduceEq, bne_iff_ne, Int.cast_ofNat_Int, ↓reduceIte, Nat.reduceEqDiff, Nat.reduceAdd, Nat.reduceMul, Nat.reduceLeDiff, Nat.reduceSub, Nat.reduceLT, Int.reduceToNat, Int.reduceLT, Int.reduceLE, reduceCtorEq, Nat.zero_add, Nat.add_zero, and_self, and_true, true_and, ne_eq, not_false_eq_true, not_true_eq_false, decide_true, decide_false, Bool.false_eq_true, Bool.not_true, Bool.not_false, Bool.true_and, Bool.and_true, Bool.or_false, Bool.false_or, Bool.and_self]
        | cub a b' c d' =>
          simp only [M, encW, List.flatMap_cons, List.flatMap_nil, Cv.fst, Cv.snd, Cv.row, List.cons_append, List.nil_append, List.append_nil, List.replicate] at hat h1 hhal
          simp only [l34_0, r34_8, h8, e1, hgt, r34_9, hw1, hle0, hlt1, Int.toNat_natCast, hat, List.replicate, r34_10, Option.map_none, hbn, Nat.zero_mul, Nat.sub_zero, r34_11, hd0, r34_13, go_sem, Int.reduceTMod, Int.reduceTDiv, Int.reduceDiv, Int.reduceMod, Int.reduceAdd, Int.reduceSub, Int.reduceMul, Int.reduceNeg, Int.reducePow, Int.reduceEq, bne_iff_ne, Int.cast_ofNat_Int, ↓reduceIte, Nat.reduceEqDiff, Nat.reduceAdd, Nat.reduceMul, Nat.reduceLeDiff, Nat.reduceSub, Nat.reduceLT, Int.reduceToNat, Int.reduceLT, Int.reduceLE, reduceCtorEq, Nat.zero_add, Nat.add_zero, and_self, and_true, true_and, ne_eq, not_false_eq_true, not_true_eq_false, decide_true, decide_false, Bool.false_eq_true, Bool.not_true, Bool.not_false, Bool.true_and, Bool.and_true, Bool.or_false, Bool.false_or, Bool.and_self]
          refine R_callz (by first | (simp only [flats, Reg.flat, Cell.flat, List.all_cons, List.all_nil, Bool.and_self, go_sem, Int.reduceTMod, Int.reduceTDiv, Int.reduceDiv, Int.reduceMod, Int.reduceAdd, Int.reduceSub, Int.reduceMul, Int.reduceNeg, Int.reducePow, Int.reduceEq, bne_iff_ne, Int.cast_ofNat_Int, ↓reduceIte, Nat.reduceEqDiff, Nat.reduceAdd, Nat.reduceMul, Nat.reduceLeDiff, Nat.reduceSub, Nat.reduceLT, Int.reduceToNat, Int.reduceLT, Int.reduceLE, reduceCtorEq, Nat.zero_add, Nat.add_zero, and_self, and_true, true_and, ne_eq, not_false_eq_true, not_true_eq_false, decide_true, decide_false, Bool.false_eq_true, Bool.not_true, Bool.not_false, Bool.true_and, Bool.and_true, Bool.or_false, Bool.false_or, Bool.and_self]; done) | rfl) ?_
          try simp only [go_sem, Int.reduceTMod, Int.reduceTDiv, Int.reduceDiv, Int.reduceMod, Int.reduceAdd, Int.reduceSub, Int.reduceMul, Int.reduceNeg, Int.reducePow, Int.reduceEq, bne_iff_ne, Int.cast_ofNat_Int, ↓reduceIte, Nat.reduceEqDiff, Nat.reduceAdd, Nat.reduceMul, Nat.reduceLeDiff, Nat.reduceSub, Nat.reduceLT, Int.reduceToNat, Int.reduceLT, Int.reduceLE, reduceCtorEq, Nat.zero_add, Nat.add_zero, and_self, and_true, true_and, ne_eq, not_false_eq_true, not_true_eq_false, decide_true, decide_false, Bool.false_eq_true, Bool.not_true, Bool.not_false, Bool.true_and, Bool.and_true, Bool.or_false, Bool.false_or, Bool.and_self]
          refine Fn.mono (hhal) ?_
          rintro _ _ _ rfl
          refine ⟨rfl, ?_⟩
          try simp only [hw2, r34_14, List.replicate, h1, go_sem, Int.reduceTMod, Int.reduceTDiv, Int.reduceDiv, Int.reduceMod, Int.reduceAdd, Int.reduceSub, Int.reduceMul, Int.reduceNeg, Int.reducePow, Int.reduceEq, bne_iff_ne, Int.cast_ofNat_Int, ↓reduceIte, Nat.reduceEqDiff, Nat.reduceAdd, Nat.reduceMul, Nat.reduceLeDiff, Nat.reduceSub, Nat.reduceLT, Int.reduceToNat, Int.reduceLT, Int.reduceLE, reduceCtorEq, Nat.zero_add, Nat.add_zero, and_self, and_true, true_and, ne_eq, not_false_eq_true, not_true_eq_false, decide_true, decide_false, Bool.false_eq_true, Bool.not_true, Bool.not_false, Bool.true_and, Bool.and_true, Bool.or_false, Bool.false_or, Bool.and_self]
          refine fin _ ?_ ?_ <;> simp only [go_sem, Int.reduceTMod, Int.reduceTDiv, Int.reduceDiv, Int.reduceMod, Int.reduceAdd, Int.reduceSub, Int.reduceMul, Int.reduceNeg, Int.reducePow, Int.reduceEq, bne_iff_ne, Int.cast_ofNat_Int, ↓reduceIte, Nat.reduceEqDiff, Nat.reduceAdd, Nat.reduceMul, Nat.reduceLeDiff, Nat.reduceSub, Nat.reduceLT, Int.reduceToNat, Int.reduceLT, Int.reduceLE, reduceCtorEq, Nat.zero_add, Nat.add_zero, and_self, and_true, true_and, ne_eq, not_false_eq_true, not_true_eq_false, decide_true, decide_false, Bool.false_eq_true, Bool.not_true, Bool.not_false, Bool.true_and, Bool.and_true, Bool.or_false, Bool.false_or, Bool.and_self]

/-- A list as a curve. -/
def toCv : List Pt → Option Cv
  | [a, b, c] => some (.quad a b c)
  | [a, b, c, d] => some (.cub a b c d)
  | _ => none
theorem toCv_pts {l : List Pt} {v : Cv} (h : toCv l = some v) : v.pts = l ∧ l.all inP = v.inP ∧ (l.length = 3 ∨ l.length = 4) := by
  unfold toCv at h
  split at h
  · cases h; exact ⟨rfl, by simp [Cv.inP, Bool.and_assoc], Or.inl rfl⟩
  · cases h; exact ⟨rfl, by simp [Cv.inP, Bool.and_assoc], Or.inr rfl⟩
  · cases h
theorem toCv_some {l : List Pt} (h : l.length = 3 ∨ l.length = 4) : ∃ v, toCv l = some v := by
  match l, h with
  | [a, b, c], _ => exact ⟨_, rfl⟩
  | [a, b, c, d], _ => exact ⟨_, rfl⟩
  | [], h => simp at h
  | [_], h => simp at h
  | [_, _], h => simp at h
  | _ :: _ :: _ :: _ :: _ :: _, h => simp at h

/-- curve.Flat of a curve. -/
theorem Flat38 (v : Cv) (r : Reg) (d : Nat) (m : Mem) (n : Nat) (hr : RP m n r v.pts) (hv : v.inP = true) (hd : d ≤ 6) :
    Fn TA 34 [r, RI d] m n (fun r' m' n' => ∃ rs, r' = .tup [rs, RI 0] ∧ n ≤ n' ∧ (∀ id, id < n → m' id = m id) ∧ Ow n m' n' rs (encP (flat d v)) (flat d v).length 2) := by
  have hlen : v.pts.length = 3 ∨ v.pts.length = 4 := by cases v <;> simp [Cv.pts]
  have hall : v.pts.all inP = true := by
    have : v.pts.all inP = v.inP := by cases v <;> simp [Cv.pts, Cv.inP, Bool.and_assoc]
    rw [this, hv]
  refine Fn_of (fn := F34) rfl (by simp [F34]) ?_
  have hd0 : ¬ ((d : Int) < 0) := by omega
  have hd1 : ¬ ((6 : Int) < (d : Int)) := by omega
  simp only [F34, c34, r34_0, r34_1, go_sem, Int.reduceTMod, Int.reduceTDiv, Int.reduceDiv, Int.reduceMod, Int.reduceAdd, Int.reduceSub, Int.reduceMul, Int.reduceNeg, Int.reducePow, Int.reduceEq, bne_iff_ne, Int.cast_ofNat_Int, ↓reduceIte, Nat.reduceEqDiff, Nat.reduceAdd, Nat.reduceMul, Nat.reduceLeDiff, Nat.reduceSub, Nat.reduceLT, Int.reduceToNat, Int.reduceLT, Int.reduceLE, reduceCtorEq, Nat.zero_add, Nat.add_zero, and_self, and_true, true_and, ne_eq, not_false_eq_true, not_true_eq_false, decide_true, decide_false, Bool.false_eq_true, Bool.not_true, Bool.not_false, Bool.true_and, Bool.and_true, Bool.or_false, Bool.false_or, Bool.and_self]
  refine R_callq ?_
  simp only [go_sem, Int.reduceTMod, Int.reduceTDiv, Int.reduceDiv, Int.reduceMod, Int.reduceAdd, Int.reduceSub, Int.reduceMul, Int.reduceNeg, Int.reducePow, Int.reduceEq, bne_iff_ne, Int.cast_ofNat_Int, ↓reduceIte, Nat.reduceEqDiff, Nat.reduceAdd, Nat.reduceMul, Nat.reduceLeDiff, Nat.reduceSub, Nat.reduceLT, Int.reduceToNat, Int.reduceLT, Int.reduceLE, reduceCtorEq, Nat.zero_add, Nat.add_zero, and_self, and_true, true_and, ne_eq, not_false_eq_true, not_true_eq_false, decide_true, decide_false, Bool.false_eq_true, Bool.not_true, Bool.not_false, Bool.true_and, Bool.and_true, Bool.or_false, Bool.false_or, Bool.and_self]
  refine (check59 r v.pts _ _ hr.frz (by omega)).mono ?_
  rintro _ _ _ rfl
  refine ⟨rfl, ?_⟩
  rw [if_pos ⟨hall, hlen⟩]
  simp only [r34_2, r34_4, hd0, hd1, r34_6, r34_7, go_sem, Int.reduceTMod, Int.reduceTDiv, Int.reduceDiv, Int.reduceMod, Int.reduceAdd, Int.reduceSub, Int.reduceMul, Int.reduceNeg, Int.reducePow, Int.reduceEq, bne_iff_ne, Int.cast_ofNat_Int, ↓reduceIte, Nat.reduceEqDiff, Nat.reduceAdd, Nat.reduceMul, Nat.reduceLeDiff, Nat.reduceSub, Nat.reduceLT, Int.reduceToNat, Int.reduceLT, Int.reduceLE, reduceCtorEq, Nat.zero_add, Nat.add_zero, and_self, and_true, true_and, ne_eq, not_false_eq_true, not_true_eq_false, decide_true, decide_false, Bool.false_eq_true, Bool.not_true, Bool.not_false, Bool.true_and, Bool.and_true, Bool.or_false, Bool.false_or, Bool.and_self]
  refine R_callq ?_
  simp only [go_sem, Int.reduceTMod, Int.reduceTDiv, Int.reduceDiv, Int.reduceMod, Int.reduceAdd, Int.reduceSub, Int.reduceMul, Int.reduceNeg, Int.reducePow, Int.reduceEq, bne_iff_ne, Int.cast_ofNat_Int, ↓reduceIte, Nat.reduceEqDiff, Nat.reduceAdd, Nat.reduceMul, Nat.reduceLeDiff, Nat.reduceSub, Nat.reduceLT, Int.reduceToNat, Int.reduceLT, Int.reduceLE, reduceCtorEq, Nat.zero_add, Nat.add_zero, and_self, and_true, true_and, ne_eq, not_false_eq_true, not_true_eq_false, decide_true, decide_false, Bool.false_eq_true, Bool.not_true, Bool.not_false, Bool.true_and, Bool.and_true, Bool.or_false, Bool.false_or, Bool.and_self]
  refine (rowOf60 v r _ _ hr.frz).mono ?_
  rintro _ _ _ rfl
  have hfl : (Reg.agg v.row).flat = true := by cases v <;> rfl
  refine ⟨hfl, ?_⟩
  have hpw : (2 : Nat) ^ d ≤ 64 := by
    have : (2 : Nat) ^ d ≤ 2 ^ 6 := Nat.pow_le_pow_right (by omega) hd
    omega
  have fin : ∀ (e : Nat → Reg) (m1 : Mem), m1 = upd m n (some ⟨v.row ++ [I d], true⟩) → e 7 = rnil → e 8 = .one (.sl n 0 1 (some 1) 10) →
      X TA (.loop l34_0) ⟨e, m1, n + 1⟩ (fun e s' => e = .x 0 ∧ n ≤ s'.n ∧ (∀ id, id < n → s'.m id = m id) ∧ Ow n s'.m s'.n (s'.e 7) (encP (flat d v)) (flat d v).length 2) := by
    intro e m1 hm1 h7 h8
    subst hm1
    refine flatLoop n m (flat d v) _ [(v, d)] [] _ (Nat.le_refl _) ?_
    simp only [h7, h8]
    refine ⟨Nat.le_succ _, fun id hi => upd_ne _ _ (Nat.ne_of_lt hi), Or.inl ⟨rfl, rfl, rfl⟩, ⟨n, some 1, _, rfl, Nat.le_refl _, Nat.lt_succ_self _, upd_same _ _ _, rfl, ?_, by simp [sid], Or.inr ⟨rfl, by simp⟩⟩, ?_, ?_, ?_⟩
    · have hl : (v.row ++ [I (d : Int)]).length = 10 := encW10 (v, d)
      unfold rd
      rw [upd_same]
      simp only [List.length_cons, List.length_nil, encW, List.flatMap_cons, List.flatMap_nil, List.append_nil, List.drop_zero]
      rw [if_pos (by rw [hl]; exact Nat.le_refl _), List.take_of_length_le (by rw [hl]; exact Nat.le_refl _)]
    · intro x hx
      simp only [List.mem_cons, List.not_mem_nil, or_false] at hx
      subst hx
      exact ⟨hv, hd⟩
    · simp [goes]
    · simp [outs]; exact hpw
  cases v with
  | quad a b c =>
    simp only [List.replicate, Cv.row, go_sem, Int.reduceTMod, Int.reduceTDiv, Int.reduceDiv, Int.reduceMod, Int.reduceAdd, Int.reduceSub, Int.reduceMul, Int.reduceNeg, Int.reducePow, Int.reduceEq, bne_iff_ne, Int.cast_ofNat_Int, ↓reduceIte, Nat.reduceEqDiff, Nat.reduceAdd, Nat.reduceMul, Nat.reduceLeDiff, Nat.reduceSub, Nat.reduceLT, Int.reduceToNat, Int.reduceLT, Int.reduceLE, reduceCtorEq, Nat.zero_add, Nat.add_zero, and_self, and_true, true_and, ne_eq, not_false_eq_true, not_true_eq_false, decide_true, decide_false, Bool.false_eq_true, Bool.not_true, Bool.not_false, Bool.true_and, Bool.and_true, Bool.or_false, Bool.false_or, Bool.and_self]
    refine (fin _ _ (by simp only [Cv.row, List.cons_append, List.nil_append]) (by simp only [go_sem, Int.reduceTMod, Int.reduceTDiv, Int.reduceDiv, Int.reduceMod, Int.reduceAdd, Int.reduceSub, Int.reduceMul, Int.reduceNeg, Int.reducePow, Int.reduceEq, bne_iff_ne, Int.cast_ofNat_Int, ↓reduceIte, Nat.reduceEqDiff, Nat.reduceAdd, Nat.reduceMul, Nat.reduceLeDiff, Nat.reduceSub, Nat.reduceLT, Int.reduceToNat, Int.reduceLT, Int.reduceLE, reduceCtorEq, Nat.zero_add, Nat.add_zero, and_self, and_true, true_and, ne_eq, not_false_eq_true, not_true_eq_false, decide_true, decide_false, Bool.false_eq_true, Bool.not_true, Bool.not_false, Bool.true_and, Bool.and_true, Bool.or_false, Bool.false_or, Bool.and_self]) (by simp only [go_sem, Int.reduceTMod, Int.reduceTDiv, Int.reduceDiv, Int.reduceMod, Int.reduceAdd, Int.reduceSub, Int.reduceMul, Int.reduceNeg, Int.reducePow, Int.reduceEq, bne_iff_ne, Int.cast_ofNat_Int, ↓reduceIte, Nat.reduceEqDiff, Nat.reduceAdd, Nat.reduceMul, Nat.reduceLeDiff, Nat.reduceSub, Nat.reduceLT, Int.reduceToNat, Int.reduceLT, Int.reduceLE, reduceCtorEq, Nat.zero_add, Nat.add_zero, and_self, and_true, true_and, ne_eq, not_false_eq_true, not_true_eq_false, decide_true, decide_false, Bool.false_eq_true, Bool.not_true, Bool.not_false, Bool.true_and, Bool.and_true, Bool.or_false, Bool.false_or, Bool.and_self])).mono fun e s' h => ?_
    obtain ⟨rfl, h1, h2, h3⟩ := h
    simp only [r34_15, go_sem, Int.reduceTMod, Int.reduceTDiv, Int.reduceDiv, Int.reduceMod, Int.reduceAdd, Int.reduceSub, Int.reduceMul, Int.reduceNeg, Int.reducePow, Int.reduceEq, bne_iff_ne, Int.cast_ofNat_Int, ↓reduceIte, Nat.reduceEqDiff, Nat.reduceAdd, Nat.reduceMul, Nat.reduceLeDiff, Nat.reduceSub, Nat.reduceLT, Int.reduceToNat, Int.reduceLT, Int.reduceLE, reduceCtorEq, Nat.zero_add, Nat.add_zero, and_self, and_true, true_and, ne_eq, not_false_eq_true, not_true_eq_false, decide_true, decide_false, Bool.false_eq_true, Bool.not_true, Bool.not_false, Bool.true_and, Bool.and_true, Bool.or_false, Bool.false_or, Bool.and_self]
    exact ⟨_, rfl, h1, h2, h3⟩
  | cub a b c e =>
    simp only [List.replicate, Cv.row, go_sem, Int.reduceTMod, Int.reduceTDiv, Int.reduceDiv, Int.reduceMod, Int.reduceAdd, Int.reduceSub, Int.reduceMul, Int.reduceNeg, Int.reducePow, Int.reduceEq, bne_iff_ne, Int.cast_ofNat_Int, ↓reduceIte, Nat.reduceEqDiff, Nat.reduceAdd, Nat.reduceMul, Nat.reduceLeDiff, Nat.reduceSub, Nat.reduceLT, Int.reduceToNat, Int.reduceLT, Int.reduceLE, reduceCtorEq, Nat.zero_add, Nat.add_zero, and_self, and_true, true_and, ne_eq, not_false_eq_true, not_true_eq_false, decide_true, decide_false, Bool.false_eq_true, Bool.not_true, Bool.not_false, Bool.true_and, Bool.and_true, Bool.or_false, Bool.false_or, Bool.and_self]
    refine (fin _ _ (by simp only [Cv.row, List.cons_append, List.nil_append]) (by simp only [go_sem, Int.reduceTMod, Int.reduceTDiv, Int.reduceDiv, Int.reduceMod, Int.reduceAdd, Int.reduceSub, Int.reduceMul, Int.reduceNeg, Int.reducePow, Int.reduceEq, bne_iff_ne, Int.cast_ofNat_Int, ↓reduceIte, Nat.reduceEqDiff, Nat.reduceAdd, Nat.reduceMul, Nat.reduceLeDiff, Nat.reduceSub, Nat.reduceLT, Int.reduceToNat, Int.reduceLT, Int.reduceLE, reduceCtorEq, Nat.zero_add, Nat.add_zero, and_self, and_true, true_and, ne_eq, not_false_eq_true, not_true_eq_false, decide_true, decide_false, Bool.false_eq_true, Bool.not_true, Bool.not_false, Bool.true_and, Bool.and_true, Bool.or_false, Bool.false_or, Bool.and_self]) (by simp only [go_sem, Int.reduceTMod, Int.reduceTDiv, Int.reduceDiv, Int.reduceMod, Int.reduceAdd, Int.reduceSub, Int.reduceMul, Int.reduceNeg, Int.reducePow, Int.reduceEq, bne_iff_ne, Int.cast_ofNat_Int, ↓reduceIte, Nat.reduceEqDiff, Nat.reduceAdd, Nat.reduceMul, Nat.reduceLeDiff, Nat.reduceSub, Nat.reduceLT, Int.reduceToNat, Int.reduceLT, Int.reduceLE, reduceCtorEq, Nat.zero_add, Nat.add_zero, and_self, and_true, true_and, ne_eq, not_false_eq_true, not_true_eq_false, decide_true, decide_false, Bool.false_eq_true, Bool.not_true, Bool.not_false, Bool.true_and, Bool.and_true, Bool.or_false, Bool.false_or, Bool.and_self])).mono fun e s' h => ?_
    obtain ⟨rfl, h1, h2, h3⟩ := h
    simp only [r34_15, go_sem, Int.reduceTMod, Int.reduceTDiv, Int.reduceDiv, Int.reduceMod, Int.reduceAdd, Int.reduceSub, Int.reduceMul, Int.reduceNeg, Int.reducePow, Int.reduceEq, bne_iff_ne, Int.cast_ofNat_Int, ↓reduceIte, Nat.reduceEqDiff, Nat.reduceAdd, Nat.reduceMul, Nat.reduceLeDiff, Nat.reduceSub, Nat.reduceLT, Int.reduceToNat, Int.reduceLT, Int.reduceLE, reduceCtorEq, Nat.zero_add, Nat.add_zero, and_self, and_true, true_and, ne_eq, not_false_eq_true, not_true_eq_false, decide_true, decide_false, Bool.false_eq_true, Bool.not_true, Bool.not_false, Bool.true_and, Bool.and_true, Bool.or_false, Bool.false_or, Bool.and_self]
    exact ⟨_, rfl, h1, h2, h3⟩

/-- curve.Flat of what is none. -/
theorem Flat38no (l : List Pt) (r : Reg) (d : Int) (m : Mem) (n : Nat) (hr : RP m n r l) (hl : l.length < 4294967296) (hno : ¬ (l.all inP = true ∧ (l.length = 3 ∨ l.length = 4)) ∨ d < 0 ∨ 6 < d) :
    Fn TA 34 [r, RI d] m n (fun r' m' n' => r' = .tup [rnil, RI 30] ∧ n ≤ n' ∧ (∀ id, id < n → m' id = m id)) := by
  refine Fn_of (fn := F34) rfl (by simp [F34]) ?_
  simp only [F34, c34, r34_0, r34_1, go_sem, Int.reduceTMod, Int.reduceTDiv, Int.reduceDiv, Int.reduceMod, Int.reduceAdd, Int.reduceSub, Int.reduceMul, Int.reduceNeg, Int.reducePow, Int.reduceEq, bne_iff_ne, Int.cast_ofNat_Int, ↓reduceIte, Nat.reduceEqDiff, Nat.reduceAdd, Nat.reduceMul, Nat.reduceLeDiff, Nat.reduceSub, Nat.reduceLT, Int.reduceToNat, Int.reduceLT, Int.reduceLE, reduceCtorEq, Nat.zero_add, Nat.add_zero, and_self, and_true, true_and, ne_eq, not_false_eq_true, not_true_eq_false, decide_true, decide_false, Bool.false_eq_true, Bool.not_true, Bool.not_false, Bool.true_and, Bool.and_true, Bool.or_false, Bool.false_or, Bool.and_self]
  refine R_callq ?_
  simp only [go_sem, Int.reduceTMod, Int.reduceTDiv, Int.reduceDiv, Int.reduceMod, Int.reduceAdd, Int.reduceSub, Int.reduceMul, Int.reduceNeg, Int.reducePow, Int.reduceEq, bne_iff_ne, Int.cast_ofNat_Int, ↓reduceIte, Nat.reduceEqDiff, Nat.reduceAdd, Nat.reduceMul, Nat.reduceLeDiff, Nat.reduceSub, Nat.reduceLT, Int.reduceToNat, Int.reduceLT, Int.reduceLE, reduceCtorEq, Nat.zero_add, Nat.add_zero, and_self, and_true, true_and, ne_eq, not_false_eq_true, not_true_eq_false, decide_true, decide_false, Bool.false_eq_true, Bool.not_true, Bool.not_false, Bool.true_and, Bool.and_true, Bool.or_false, Bool.false_or, Bool.and_self]
  refine (check59 r l _ _ hr.frz hl).mono ?_
  rintro _ _ _ rfl
  refine ⟨rfl, ?_⟩
  by_cases hc : l.all inP = true ∧ (l.length = 3 ∨ l.length = 4)
  · rw [if_pos hc]
    rcases hno with h | h
    · exact absurd hc h
    · by_cases h0 : d < 0
      · simp only [r34_2, r34_4, h0, r34_5, go_sem, Int.reduceTMod, Int.reduceTDiv, Int.reduceDiv, Int.reduceMod, Int.reduceAdd, Int.reduceSub, Int.reduceMul, Int.reduceNeg, Int.reducePow, Int.reduceEq, bne_iff_ne, Int.cast_ofNat_Int, ↓reduceIte, Nat.reduceEqDiff, Nat.reduceAdd, Nat.reduceMul, Nat.reduceLeDiff, Nat.reduceSub, Nat.reduceLT, Int.reduceToNat, Int.reduceLT, Int.reduceLE, reduceCtorEq, Nat.zero_add, Nat.add_zero, and_self, and_true, true_and, ne_eq, not_false_eq_true, not_true_eq_false, decide_true, decide_false, Bool.false_eq_true, Bool.not_true, Bool.not_false, Bool.true_and, Bool.and_true, Bool.or_false, Bool.false_or, Bool.and_self]
        exact ⟨Nat.le_refl _, fun _ _ => trivial⟩
      · have h6 : 6 < d := by omega
        simp only [r34_2, r34_4, h0, h6, r34_5, go_sem, Int.reduceTMod, Int.reduceTDiv, Int.reduceDiv, Int.reduceMod, Int.reduceAdd, Int.reduceSub, Int.reduceMul, Int.reduceNeg, Int.reducePow, Int.reduceEq, bne_iff_ne, Int.cast_ofNat_Int, ↓reduceIte, Nat.reduceEqDiff, Nat.reduceAdd, Nat.reduceMul, Nat.reduceLeDiff, Nat.reduceSub, Nat.reduceLT, Int.reduceToNat, Int.reduceLT, Int.reduceLE, reduceCtorEq, Nat.zero_add, Nat.add_zero, and_self, and_true, true_and, ne_eq, not_false_eq_true, not_true_eq_false, decide_true, decide_false, Bool.false_eq_true, Bool.not_true, Bool.not_false, Bool.true_and, Bool.and_true, Bool.or_false, Bool.false_or, Bool.and_self]
        exact ⟨Nat.le_refl _, fun _ _ => trivial⟩
  · rw [if_neg hc]
    simp only [r34_2, r34_3, Int.reduceEq, go_sem, Int.reduceTMod, Int.reduceTDiv, Int.reduceDiv, Int.reduceMod, Int.reduceAdd, Int.reduceSub, Int.reduceMul, Int.reduceNeg, Int.reducePow, Int.reduceEq, bne_iff_ne, Int.cast_ofNat_Int, ↓reduceIte, Nat.reduceEqDiff, Nat.reduceAdd, Nat.reduceMul, Nat.reduceLeDiff, Nat.reduceSub, Nat.reduceLT, Int.reduceToNat, Int.reduceLT, Int.reduceLE, reduceCtorEq, Nat.zero_add, Nat.add_zero, and_self, and_true, true_and, ne_eq, not_false_eq_true, not_true_eq_false, decide_true, decide_false, Bool.false_eq_true, Bool.not_true, Bool.not_false, Bool.true_and, Bool.and_true, Bool.or_false, Bool.false_or, Bool.and_self]
    exact ⟨Nat.le_refl _, fun _ _ => trivial⟩
end Go.Proofs.YtpleidpbapgmiaaDoor.Sy.Cu
