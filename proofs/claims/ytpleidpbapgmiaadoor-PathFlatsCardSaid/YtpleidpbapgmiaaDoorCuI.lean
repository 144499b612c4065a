/- Curves: the reference's lines. Conditions: those that each theorem names. -/
import Derived.Test.YtpleidpbapgmiaaDoorCuH
namespace Go.Proofs.YtpleidpbapgmiaaDoor.Sy.Cu
open Go Go.Proofs
set_option linter.unusedSimpArgs false
set_option linter.unusedVariables false
attribute [local go_sem] R_nil R_mv R_pick R_alloc R_box R_build R_bslice R_load1 R_loadA R_store R_nilchk R_bin R_beq R_eqv R_eqnil R_un R_conv R_mkfn R_mkslice R_slS R_slA R_fadr R_fld R_iadrA R_iadrS R_idxA R_ext R_len R_lenC R_cap R_app R_appz R_cpy R_mn R_mx
  noId Bool.false_or evalOp evO evOs upd_upd upd_at unfrz_at putE_some putE_none Then_some X_seq X_reg X_dreg X_ureg X_ret X_skip X_exit X_block X_condK condK_bool Next_n Next_x Next_r Out_n Out_x Out_r Ret_n Ret_r
  bin_shr1 bin_add bin_sub bin_mul bin_lss bin_leq bin_gtr bin_geq bin_eql bin_neq un_not un_neg boolOf_b boolOf_tup R_guard Option.map_some evRes pack_one pack_two pack_three pack_none List.getD_cons_zero List.getD_cons_succ getD_nil
  Option.some.injEq exists_eq_left' Reg.cs? fillC setL List.set_cons_zero List.set_cons_succ List.length_cons List.length_nil rd_upd rdB wr List.drop_zero List.drop_succ_cons List.take_succ_cons List.take_zero List.getElem?_cons_zero List.getElem?_cons_succ
  ix Int.toNat_zero lenO_sl lenO_nil sn1 ns1 sn2 ns2 sn3 ns3 sn4 ns4 sn5 ns5 sn6 ns6 sn7 ns7 sn8 ns8 sn9 ns9 sn10 ns10 sn11 ns11 sn12 ns12 sk1_2 sk1_3 sk1_4 sk1_5 sk1_6 sk1_7 sk1_8 sk2_1 sk2_3 sk2_4 sk2_5 sk2_6 sk2_7 sk2_8 sk3_1 sk3_2 sk3_4 sk3_5 sk3_6 sk3_7 sk3_8 sk4_1 sk4_2 sk4_3 sk4_5 sk4_6 sk4_7 sk4_8 sk5_1 sk5_2 sk5_3 sk5_4 sk5_6 sk5_7 sk5_8 sk6_1 sk6_2 sk6_3 sk6_4 sk6_5 sk6_7 sk6_8 sk7_1 sk7_2 sk7_3 sk7_4 sk7_5 sk7_6 sk7_8 sk8_1 sk8_2 sk8_3 sk8_4 sk8_5 sk8_6 sk8_7

theorem firsts_cv (v : Cv) : firsts v.pts.length v.pts = v.fst.pts := by cases v <;> rfl
theorem lasts_cv (v : Cv) : lasts v.pts.length v.pts = v.snd.pts := by cases v <;> rfl
theorem pts_in {v : Cv} (h : v.inP = true) : v.pts.all inP = true := by
  have : v.pts.all inP = v.inP := by cases v <;> simp [Cv.pts, Cv.inP, Bool.and_assoc]
  rw [this, h]
theorem pts_len (v : Cv) : v.pts.length = 3 ∨ v.pts.length = 4 := by cases v <;> simp [Cv.pts]
theorem pts_last (v : Cv) : v.pts[v.pts.length - 1]? = some v.last := by cases v <;> rfl

theorem Sn.unfrz {m m' : Mem} {n n' : Nat} {r : Reg} {l : List Pt} (h : Sn n m' n' r l) : Sn n (unfrz m n m') n' r l :=
  ⟨RP.keep' h.1 (Nat.le_refl _) (fun i hi => by rw [unfrz_at, if_neg (by have := h.2 i hi; omega)]), h.2⟩

/-- A list that may be appended to. -/
def Gr (base : Nat) (m : Mem) (n : Nat) (r : Reg) (l : List Pt) : Prop :=
  ∃ id cap, r = .one (.sl id 0 l.length cap 2) ∧ base ≤ id ∧ id < n ∧ m id = some ⟨encP l, true⟩ ∧ (cap = none ∨ cap = some l.length)
theorem Gr.sn {base n : Nat} {m : Mem} {r : Reg} {l : List Pt} (h : Gr base m n r l) : Sn base m n r l := by
  obtain ⟨id, cap, rfl, h1, h2, h3, h4⟩ := h
  have hl : (encP l).length = l.length * 2 := flatMap_len _ 2 cs2 l
  refine ⟨Or.inr ⟨id, 0, cap, rfl, h2, ?_⟩, fun i hi => by simp only [sid, Option.some.injEq] at hi; omega⟩
  unfold rd
  rw [h3]
  simp only [Nat.zero_add, List.drop_zero]
  rw [if_pos (by rw [hl]; exact Nat.le_refl _), ← hl, List.take_length]
theorem Gr.keep {base n n' : Nat} {m m' : Mem} {r : Reg} {l : List Pt} (h : Gr base m n r l) (hn : n ≤ n') (hm : ∀ id, sid r = some id → m' id = m id) : Gr base m' n' r l := by
  obtain ⟨id, cap, rfl, h1, h2, h3, h4⟩ := h
  exact ⟨id, cap, rfl, h1, by omega, by rw [hm id rfl]; exact h3, h4⟩

/-- One list behind another. -/
theorem join {base n by' : Nat} {m : Mem} {ra rb : Reg} {a b : List Pt} (ha : Gr base m n ra a) (hb : RP m n rb b) (hbn : base ≤ n) (hpos : 0 < b.length) (hle : a.length + b.length ≤ 4294967296) :
    ∃ r' m', evApp m n 2 by' ra rb = some (r', m', n + 1) ∧ Gr base m' (n + 1) r' (a ++ b) ∧ (∀ i, i ≠ n → sid ra ≠ some i → m' i = m i) := by
  obtain ⟨id, cap, rfl, h1, h2, h3, h4⟩ := ha
  have hla : (encP a).length = a.length * 2 := flatMap_len _ 2 cs2 a
  have hrd : rd m id 0 (a.length * 2) = some (encP a) := by
    unfold rd
    rw [h3]
    simp only [Nat.zero_add, List.drop_zero]
    rw [if_pos (by rw [hla]; exact Nat.le_refl _), ← hla, List.take_length]
  have hnew : newsOf m 2 rb = some (b.length, encP b) := by
    rcases hb with ⟨rfl, hz, _⟩ | ⟨id2, off, cap2, rfl, _, h⟩
    · omega
    · simp [newsOf, h]
  obtain ⟨m', g1, g2, g3⟩ := evApp_push (n := n) (by' := by') hnew hpos hle h3 rfl hrd (show cap = none ∨ ∃ c, cap = some c ∧ c < a.length + b.length by
    rcases h4 with h | h
    · exact Or.inl h
    · exact Or.inr ⟨_, h, by omega⟩)
  refine ⟨_, m', g1, ⟨n, none, by rw [List.length_append], hbn, Nat.lt_succ_self _, ?_, Or.inl rfl⟩, fun i q1 q2 => g3 i q1 (fun e => q2 (by rw [e]; rfl))⟩
  rw [g2]
  simp [encP]

theorem Flat41 : ∀ (d : Nat) (v : Cv) (r : Reg) (m : Mem) (n : Nat), d ≤ 6 → v.inP = true → RP m n r v.pts →
    Fn TA 37 [r, RI d] m n (fun r' m' n' => n ≤ n' ∧ (∀ id, id < n → m' id = m id) ∧ Gr n m' n' r' (flat d v))
  | 0, v, r, m, n, hd, hv, hr => by
    refine Fn_of (fn := F37) rfl (by simp [F37]) ?_
    have hlen := Rd.len hr
    have hl34 := pts_len v
    have hlast : v.pts.length - 1 < v.pts.length := by omega
    obtain ⟨id, off, cap, rfl, hid, hrd⟩ := RP.sl hr hlast
    have hw : IntKind.i64.wrap ((v.pts.length : Int) - 1) = ((v.pts.length - 1 : Nat) : Int) := by rw [wr_eq (by omega) (by omega)]; omega
    have h01 : (0 : Int) ≤ ((v.pts.length - 1 : Nat) : Int) := by omega
    have hlt1 : ((v.pts.length - 1 : Nat) : Int) < (v.pts.length : Int) := by omega
    have hla : v.pts[v.pts.length - 1] = v.last := by have := pts_last v; rw [List.getElem?_eq_getElem hlast] at this; exact Option.some.inj this
    rw [hla] at hrd
    simp only [F37, c37, r37_0, r37_1, Int.natCast_zero, r37_2, hw, h01, hlt1, Int.toNat_natCast, hrd, go_sem, Int.reduceTMod, Int.reduceTDiv, Int.reduceDiv, Int.reduceMod, Int.reduceAdd, Int.reduceSub, Int.reduceMul, Int.reduceNeg, Int.reducePow, Int.reduceEq, bne_iff_ne, Int.cast_ofNat_Int, ↓reduceIte, Nat.reduceEqDiff, Nat.reduceAdd, Nat.reduceMul, Nat.reduceLeDiff, Nat.reduceSub, Nat.reduceLT, Int.reduceToNat, Int.reduceLT, Int.reduceLE, reduceCtorEq, Nat.zero_add, Nat.add_zero, and_self, and_true, true_and, ne_eq, not_false_eq_true, not_true_eq_false, decide_true, decide_false, Bool.false_eq_true, Bool.not_true, Bool.not_false, Bool.true_and, Bool.and_true, Bool.or_false, Bool.false_or, Bool.and_self]
    refine ⟨by omega, fun i hi => ?_, n, some 1, rfl, Nat.le_refl _, Nat.lt_succ_self _, ?_, Or.inr rfl⟩
    · simp only [lt0 hi, go_sem, Int.reduceTMod, Int.reduceTDiv, Int.reduceDiv, Int.reduceMod, Int.reduceAdd, Int.reduceSub, Int.reduceMul, Int.reduceNeg, Int.reducePow, Int.reduceEq, bne_iff_ne, Int.cast_ofNat_Int, ↓reduceIte, Nat.reduceEqDiff, Nat.reduceAdd, Nat.reduceMul, Nat.reduceLeDiff, Nat.reduceSub, Nat.reduceLT, Int.reduceToNat, Int.reduceLT, Int.reduceLE, reduceCtorEq, Nat.zero_add, Nat.add_zero, and_self, and_true, true_and, ne_eq, not_false_eq_true, not_true_eq_false, decide_true, decide_false, Bool.false_eq_true, Bool.not_true, Bool.not_false, Bool.true_and, Bool.and_true, Bool.or_false, Bool.false_or, Bool.and_self]
    · simp only [flat, encP, List.flatMap_cons, List.flatMap_nil, List.append_nil, go_sem, Int.reduceTMod, Int.reduceTDiv, Int.reduceDiv, Int.reduceMod, Int.reduceAdd, Int.reduceSub, Int.reduceMul, Int.reduceNeg, Int.reducePow, Int.reduceEq, bne_iff_ne, Int.cast_ofNat_Int, ↓reduceIte, Nat.reduceEqDiff, Nat.reduceAdd, Nat.reduceMul, Nat.reduceLeDiff, Nat.reduceSub, Nat.reduceLT, Int.reduceToNat, Int.reduceLT, Int.reduceLE, reduceCtorEq, Nat.zero_add, Nat.add_zero, and_self, and_true, true_and, ne_eq, not_false_eq_true, not_true_eq_false, decide_true, decide_false, Bool.false_eq_true, Bool.not_true, Bool.not_false, Bool.true_and, Bool.and_true, Bool.or_false, Bool.false_or, Bool.and_self]
  | d + 1, v, r, m, n, hd, hv, hr => by
    refine Fn_of (fn := F37) rfl (by simp [F37]) ?_
    have hd0 : ¬ (((d + 1 : Nat) : Int) = 0) := by omega
    have hw : IntKind.i64.wrap (((d + 1 : Nat) : Int) - 1) = (d : Int) := by rw [wr_eq (by omega) (by omega)]; omega
    have hl34 := pts_len v
    have hlf := flat_length d v.fst
    have hls := flat_length d v.snd
    have hpw : (2 : Nat) ^ d ≤ 64 := by
      have : (2 : Nat) ^ d ≤ 2 ^ 6 := Nat.pow_le_pow_right (by omega) (by omega)
      omega
    have hpos : 0 < (2 : Nat) ^ d := Nat.two_pow_pos d
    simp only [F37, c37, r37_0, r37_1, hd0, r37_3, go_sem, Int.reduceTMod, Int.reduceTDiv, Int.reduceDiv, Int.reduceMod, Int.reduceAdd, Int.reduceSub, Int.reduceMul, Int.reduceNeg, Int.reducePow, Int.reduceEq, bne_iff_ne, Int.cast_ofNat_Int, ↓reduceIte, Nat.reduceEqDiff, Nat.reduceAdd, Nat.reduceMul, Nat.reduceLeDiff, Nat.reduceSub, Nat.reduceLT, Int.reduceToNat, Int.reduceLT, Int.reduceLE, reduceCtorEq, Nat.zero_add, Nat.add_zero, and_self, and_true, true_and, ne_eq, not_false_eq_true, not_true_eq_false, decide_true, decide_false, Bool.false_eq_true, Bool.not_true, Bool.not_false, Bool.true_and, Bool.and_true, Bool.or_false, Bool.false_or, Bool.and_self]
    refine R_callk ?_
    simp only [go_sem, Int.reduceTMod, Int.reduceTDiv, Int.reduceDiv, Int.reduceMod, Int.reduceAdd, Int.reduceSub, Int.reduceMul, Int.reduceNeg, Int.reducePow, Int.reduceEq, bne_iff_ne, Int.cast_ofNat_Int, ↓reduceIte, Nat.reduceEqDiff, Nat.reduceAdd, Nat.reduceMul, Nat.reduceLeDiff, Nat.reduceSub, Nat.reduceLT, Int.reduceToNat, Int.reduceLT, Int.reduceLE, reduceCtorEq, Nat.zero_add, Nat.add_zero, and_self, and_true, true_and, ne_eq, not_false_eq_true, not_true_eq_false, decide_true, decide_false, Bool.false_eq_true, Bool.not_true, Bool.not_false, Bool.true_and, Bool.and_true, Bool.or_false, Bool.false_or, Bool.and_self]
    refine (Halves46 r v.pts (frz m) n (Rd.frz hr) (by omega) (pts_in hv)).mono ?_
    rintro _ m1 n1 ⟨ra, rb, rfl, hn1, _, ha, hb⟩
    rw [firsts_cv] at ha
    rw [lasts_cv] at hb
    have ha := ha.unfrz (m := m)
    have hb := hb.unfrz (m := m)
    have hmx : max n n1 = n1 := Nat.max_eq_right hn1
    have hM1 : ∀ i, i < n → unfrz m n m1 i = m i := fun i hi => by rw [unfrz_at, if_pos hi]
    simp only [hmx, r37_4, hw, go_sem, Int.reduceTMod, Int.reduceTDiv, Int.reduceDiv, Int.reduceMod, Int.reduceAdd, Int.reduceSub, Int.reduceMul, Int.reduceNeg, Int.reducePow, Int.reduceEq, bne_iff_ne, Int.cast_ofNat_Int, ↓reduceIte, Nat.reduceEqDiff, Nat.reduceAdd, Nat.reduceMul, Nat.reduceLeDiff, Nat.reduceSub, Nat.reduceLT, Int.reduceToNat, Int.reduceLT, Int.reduceLE, reduceCtorEq, Nat.zero_add, Nat.add_zero, and_self, and_true, true_and, ne_eq, not_false_eq_true, not_true_eq_false, decide_true, decide_false, Bool.false_eq_true, Bool.not_true, Bool.not_false, Bool.true_and, Bool.and_true, Bool.or_false, Bool.false_or, Bool.and_self]
    generalize unfrz m n m1 = M1 at ha hb hM1 ⊢
    refine R_callk ?_
    simp only [go_sem, Int.reduceTMod, Int.reduceTDiv, Int.reduceDiv, Int.reduceMod, Int.reduceAdd, Int.reduceSub, Int.reduceMul, Int.reduceNeg, Int.reducePow, Int.reduceEq, bne_iff_ne, Int.cast_ofNat_Int, ↓reduceIte, Nat.reduceEqDiff, Nat.reduceAdd, Nat.reduceMul, Nat.reduceLeDiff, Nat.reduceSub, Nat.reduceLT, Int.reduceToNat, Int.reduceLT, Int.reduceLE, reduceCtorEq, Nat.zero_add, Nat.add_zero, and_self, and_true, true_and, ne_eq, not_false_eq_true, not_true_eq_false, decide_true, decide_false, Bool.false_eq_true, Bool.not_true, Bool.not_false, Bool.true_and, Bool.and_true, Bool.or_false, Bool.false_or, Bool.and_self]
    refine (Flat41 d v.fst ra (frz M1) n1 (by omega) (Cv.inP_fst hv) (Rd.frz ha.1)).mono ?_
    rintro rx m2 n2 ⟨hn2, _, hx⟩
    have hmx2 : max n1 n2 = n2 := Nat.max_eq_right hn2
    have hx : Gr n1 (unfrz M1 n1 m2) n2 rx (flat d v.fst) := hx.keep (Nat.le_refl _) (fun i hi => by rw [unfrz_at, if_neg (by have := hx.sn.2 i hi; omega)])
    have hb : RP (unfrz M1 n1 m2) n2 rb v.snd.pts := RP.keep' hb.1 hn2 (fun i hi => by rw [unfrz_at, if_pos (RP.lt hb.1 hi)])
    have hM2 : ∀ i, i < n → unfrz M1 n1 m2 i = m i := fun i hi => by rw [unfrz_at, if_pos (by omega)]; exact hM1 i hi
    simp only [hmx2, hw, go_sem, Int.reduceTMod, Int.reduceTDiv, Int.reduceDiv, Int.reduceMod, Int.reduceAdd, Int.reduceSub, Int.reduceMul, Int.reduceNeg, Int.reducePow, Int.reduceEq, bne_iff_ne, Int.cast_ofNat_Int, ↓reduceIte, Nat.reduceEqDiff, Nat.reduceAdd, Nat.reduceMul, Nat.reduceLeDiff, Nat.reduceSub, Nat.reduceLT, Int.reduceToNat, Int.reduceLT, Int.reduceLE, reduceCtorEq, Nat.zero_add, Nat.add_zero, and_self, and_true, true_and, ne_eq, not_false_eq_true, not_true_eq_false, decide_true, decide_false, Bool.false_eq_true, Bool.not_true, Bool.not_false, Bool.true_and, Bool.and_true, Bool.or_false, Bool.false_or, Bool.and_self]
    generalize unfrz M1 n1 m2 = M2 at hx hb hM2 ⊢
    refine R_callk ?_
    simp only [go_sem, Int.reduceTMod, Int.reduceTDiv, Int.reduceDiv, Int.reduceMod, Int.reduceAdd, Int.reduceSub, Int.reduceMul, Int.reduceNeg, Int.reducePow, Int.reduceEq, bne_iff_ne, Int.cast_ofNat_Int, ↓reduceIte, Nat.reduceEqDiff, Nat.reduceAdd, Nat.reduceMul, Nat.reduceLeDiff, Nat.reduceSub, Nat.reduceLT, Int.reduceToNat, Int.reduceLT, Int.reduceLE, reduceCtorEq, Nat.zero_add, Nat.add_zero, and_self, and_true, true_and, ne_eq, not_false_eq_true, not_true_eq_false, decide_true, decide_false, Bool.false_eq_true, Bool.not_true, Bool.not_false, Bool.true_and, Bool.and_true, Bool.or_false, Bool.false_or, Bool.and_self]
    refine (Flat41 d v.snd rb (frz M2) n2 (by omega) (Cv.inP_snd hv) (Rd.frz hb)).mono ?_
    rintro ry m3 n3 ⟨hn3, _, hy⟩
    have hmx3 : max n2 n3 = n3 := Nat.max_eq_right hn3
    have hx : Gr n1 (unfrz M2 n2 m3) n3 rx (flat d v.fst) := hx.keep hn3 (fun i hi => by rw [unfrz_at, if_pos (RP.lt hx.sn.1 hi)])
    have hy : RP (unfrz M2 n2 m3) n3 ry (flat d v.snd) := (Sn.unfrz (m := M2) hy.sn).1
    have hM3 : ∀ i, i < n → unfrz M2 n2 m3 i = m i := fun i hi => by rw [unfrz_at, if_pos (by omega)]; exact hM2 i hi
    obtain ⟨r', m', g1, g2, g3⟩ := join (by' := 16) hx hy (by omega) (by omega) (by omega)
    simp only [hmx3, g1, go_sem, Int.reduceTMod, Int.reduceTDiv, Int.reduceDiv, Int.reduceMod, Int.reduceAdd, Int.reduceSub, Int.reduceMul, Int.reduceNeg, Int.reducePow, Int.reduceEq, bne_iff_ne, Int.cast_ofNat_Int, ↓reduceIte, Nat.reduceEqDiff, Nat.reduceAdd, Nat.reduceMul, Nat.reduceLeDiff, Nat.reduceSub, Nat.reduceLT, Int.reduceToNat, Int.reduceLT, Int.reduceLE, reduceCtorEq, Nat.zero_add, Nat.add_zero, and_self, and_true, true_and, ne_eq, not_false_eq_true, not_true_eq_false, decide_true, decide_false, Bool.false_eq_true, Bool.not_true, Bool.not_false, Bool.true_and, Bool.and_true, Bool.or_false, Bool.false_or, Bool.and_self]
    refine ⟨by omega, fun i hi => ?_, ?_⟩
    · rw [g3 i (by omega) (fun hs => by have := hx.sn.2 i hs; omega)]
      exact hM3 i hi
    · obtain ⟨id, cap, e1, e2, e3⟩ := g2
      exact ⟨id, cap, e1, by omega, e3⟩
end Go.Proofs.YtpleidpbapgmiaaDoor.Sy.Cu
