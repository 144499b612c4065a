/- What path.Flat does with the last subpath. Conditions: those that each theorem names. -/
import Derived.Test.YtpleidpbapgmiaaDoorPfB
import Derived.Test.YtpleidpbapgmiaaDoorCuI
namespace Go.Proofs.YtpleidpbapgmiaaDoor.Sy
open Go Go.Proofs
set_option linter.unusedSimpArgs false
set_option linter.unusedVariables false
set_option maxRecDepth 20000
attribute [local go_sem] XK_seq XK_block XK_skip XK_exit XK_ret XK_cond XK_reg XK_dreg XK_ureg KN_seq KN_blk KN_lp KN_chk KN_chku KN_top KN_fin KX_seq KX_lp KX_blk KX_chk KX_top KR_seq KR_blk KR_lp KR_chk KR_top KR_fin FK_true FK_false RK_nil RK_mv RK_pick RK_alloc RK_box RK_build RK_bslice RK_load1 RK_loadA RK_store RK_nilchk RK_bin RK_beq RK_eqv RK_eqnil RK_un RK_conv RK_mkfn RK_mkslice RK_slS RK_slA RK_fadr RK_fld RK_iadrA RK_iadrS RK_idxA RK_ext RK_lenC RK_cap RK_app RK_appz RK_cpy RK_mn RK_mx RK_len RK_carry RK_clr carryR um0 um1 ThenK_some RK_guard GK_tt GK_ff GK_tf GK_ft GK_none QK_some RK_callQ RK_callZ RK_callT TK_some VK_clo RK_callV
  evalOp evO evOs upd_at unfrz_at putE_some putE_none boolOf_b boolOf_tup Option.map_some evRes pack_one pack_two pack_three pack_none List.getD_cons_zero List.getD_cons_succ getD_nil
  Option.some.injEq exists_eq_left' Reg.cs? fillC setL List.set_cons_zero List.set_cons_succ List.length_cons List.length_nil rd_upd rd_updn rdB wr List.drop_zero List.drop_succ_cons List.take_succ_cons List.take_zero List.getElem?_cons_zero List.getElem?_cons_succ
  ix Int.toNat_zero lenO_sl lenO_nil nadd na_eq na_eq' na_lt na_ee na_ll na_ne na_ne' na_tt
attribute [local go_sem] Reg.flat_one Reg.flat_agg Reg.flat_tup flats_nil flats_cons Cell.flat_sc Cell.flat_ptr List.all_cons List.all_nil disOk safeOk safeR decide_eq_true_eq decide_eq_false_iff_not
  List.map_cons List.map_nil List.cons_append List.nil_append List.append_nil evalOp.capsOf Bool.false_bne Bool.bne_false Bool.true_bne Bool.bne_true bne_self_eq_false beq_self_eq_true Bool.not_not Bool.false_and Bool.and_false Bool.true_or Bool.or_true beq_iff_eq eqCells
  Bool.true_beq Bool.false_beq Bool.not_eq_true' Bool.not_eq_eq_eq_not Bool.not_eq_false' and_false false_and frz_at idOf noId Option.isSome_some Bool.and_eq_true
attribute [local go_sem] wr_eq bV_add bV_sub bV_mul bV_eql bV_neq bV_lss bV_leq bV_gtr bV_geq bV_quo bV_rem bV_shr bV_shl uV_not uV_neg wrapU bits_and bits_or bits_xor IntKind.bits Nat.min_eq_left Nat.min_eq_right Nat.min_self
attribute [local go_sem] bne_iff_ne Int.cast_ofNat_Int Nat.zero_add Nat.add_zero and_self and_true true_and ne_eq not_false_eq_true not_true_eq_false decide_true decide_false Bool.false_eq_true Bool.not_true Bool.not_false Bool.true_and Bool.and_true Bool.or_false Bool.false_or Bool.and_self

theorem one_pt {m : Mem} {n b : Nat} {p : Pt} {o : Bool} (hbn : b < n) (hb : m b = some ⟨p.cs, o⟩) : RPt m n (.one (.sl b 0 1 (some 1) 2)) [p] := by
  refine Or.inr ⟨b, 0, some 1, rfl, hbn, ?_⟩
  rw [rd_of hb]
  rfl
theorem pt_rp {m : Mem} {n : Nat} {r : Reg} {l : List Pt} (h : RPt m n r l) : Cu.RP m n r l := by
  rcases h with ⟨rfl, rfl⟩ | ⟨id, off, cap, h1, h2, h3⟩
  · exact Or.inl ⟨rfl, rfl, rfl⟩
  · exact Or.inr ⟨id, off, cap, h1, h2, h3⟩
theorem rp_pt {m : Mem} {n : Nat} {r : Reg} {l : List Pt} (h : Cu.RP m n r l) : RPt m n r l := by
  rcases h with ⟨rfl, h1, _⟩ | ⟨id, off, cap, h1, h2, h3⟩
  · exact Or.inl ⟨rfl, List.length_eq_zero_iff.1 h1⟩
  · exact Or.inr ⟨id, off, cap, h1, h2, h3⟩
section
variable {R : List Cell} {cl : Cell} {v : Cell} {k2 : Nat}
theorem C_at (hR : R.length = k2) : (R ++ [cl, v])[k2]? = some cl := by rw [List.getElem?_append_right (by omega), hR, Nat.sub_self]; rfl
theorem C_le (hR : R.length = k2) : (k2 + 1 ≤ (R ++ [cl, v]).length) = True := eq_true (by simp; omega)
theorem C_le1 (hR : R.length = k2) : (k2 + 1 + 1 ≤ (R ++ [cl, v]).length) = True := eq_true (by simp; omega)
theorem C_set (hR : R.length = k2) (c : Cell) : (R ++ [cl, v]).set k2 c = R ++ [c, v] := by rw [List.set_append_right _ _ (by omega), hR, Nat.sub_self]; rfl
theorem C_set1 (hR : R.length = k2) (c : Cell) : (R ++ [cl, v]).set (k2 + 1) c = R ++ [cl, c] := by rw [List.set_append_right _ _ (by omega), hR, show k2 + 1 - k2 = 1 by omega]; rfl
end
/-- A point behind the last subpath. -/
theorem flat_r14 {B n1 N sb id k2 : Nat} {M : Mem} {cl : Cell} {R : List Cell} {bb : Bool} {L : List Pt} {sg : Sg} {e : Nat → Reg} {K : Kt}
    (hid : M id = some ⟨R ++ [cl, .sc (.bool bb)], true⟩) (hR : R.length = k2) (hcl : OPd B M n1 cl L) (hn : n1 ≤ N) (hidN : id < N) (hne : sid (.one cl) ≠ some id) (hsb : M sb = some ⟨sg.cs, true⟩) (hsN : sb < N)
    (q9 : e 9 = .one (.ptr sb 0)) (q10 : e 10 = .one (.ptr id k2)) (hL : L.length + 1 ≤ 4294967296) (hB : B ≤ N)
    (next : ∀ e' M' N' c', N ≤ N' → OPd B M' N' c' (L ++ [sg.a]) → (∀ j, sid (.one c') = some j → N ≤ j) → M' id = some ⟨R ++ [c', .sc (.bool bb)], true⟩ → (∀ j, j < N → j ≠ id → sid (.one cl) ≠ some j → M' j = M j) → e' 3 = e 3 → e' 7 = e 7 → KN TA K ⟨e', M', N'⟩) :
    RK TA r10_14 e M N K := by
  have hat := C_at (cl := cl) (v := .sc (.bool bb)) hR
  have hle := C_le (cl := cl) (v := .sc (.bool bb)) hR
  have hset := fun c => C_set (cl := cl) (v := .sc (.bool bb)) hR c
  generalize hC : R ++ [cl, .sc (.bool bb)] = C at *
  have hpt : rd M sb 1 2 = some [I sg.a.x, I sg.a.y] := by rw [rd_of hsb]; rfl
  try simp only [r10_14, q9, q10, hid, hat, hpt, Nat.zero_mul, go_sem, Int.reduceTMod, Int.reduceTDiv, Int.reduceDiv, Int.reduceMod, Int.reduceAdd, Int.reduceSub, Int.reduceMul, Int.reduceNeg, Int.reducePow, Int.reduceEq, ↓reduceIte, Nat.reduceEqDiff, Nat.reduceAdd, Nat.reduceMul, Nat.reduceLeDiff, Nat.reduceSub, Nat.reduceLT, Int.reduceToNat, Int.reduceLT, Int.reduceLE, reduceCtorEq]
  repeat' ((first | refine FK_split (fun h_ => ?_) (fun h_ => ?_) | refine GK_split (fun h_ => ?_) (fun h_ => ?_) | refine ite_both (fun h_ => ?_) (fun h_ => ?_)) <;> (try simp only [decide_eq_true_eq, decide_eq_false_iff_not, Bool.not_true, Bool.not_false, Bool.not_eq_true', Bool.not_eq_false', Bool.not_eq_eq_eq_not, Decidable.not_not] at h_) <;> (try simp only [r10_14, q9, q10, hid, hat, hpt, Nat.zero_mul, h_, go_sem, Int.reduceTMod, Int.reduceTDiv, Int.reduceDiv, Int.reduceMod, Int.reduceAdd, Int.reduceSub, Int.reduceMul, Int.reduceNeg, Int.reducePow, Int.reduceEq, ↓reduceIte, Nat.reduceEqDiff, Nat.reduceAdd, Nat.reduceMul, Nat.reduceLeDiff, Nat.reduceSub, Nat.reduceLT, Int.reduceToNat, Int.reduceLT, Int.reduceLE, reduceCtorEq]))
  refine K_appD (xs := [sg.a]) (nx := N + 1) hcl (by omega) (fun j hj => by have := hcl.lt hj; exact upd_ne _ _ (by omega)) (one_pt (o := true) (by omega) (upd_same _ _ _)) (by simp) (by simpa using hL) (by omega) ?_
  intro c' M' ho hf hs
  have hid' : M' id = some ⟨C, true⟩ := by rw [hf id (by omega) hne, upd_ne _ _ (by omega)]; exact hid
  try simp only [r10_14, q10, hid', hle, hset, go_sem, Int.reduceTMod, Int.reduceTDiv, Int.reduceDiv, Int.reduceMod, Int.reduceAdd, Int.reduceSub, Int.reduceMul, Int.reduceNeg, Int.reducePow, Int.reduceEq, ↓reduceIte, Nat.reduceEqDiff, Nat.reduceAdd, Nat.reduceMul, Nat.reduceLeDiff, Nat.reduceSub, Nat.reduceLT, Int.reduceToNat, Int.reduceLT, Int.reduceLE, reduceCtorEq]
  repeat' ((first | refine FK_split (fun h_ => ?_) (fun h_ => ?_) | refine GK_split (fun h_ => ?_) (fun h_ => ?_) | refine ite_both (fun h_ => ?_) (fun h_ => ?_)) <;> (try simp only [decide_eq_true_eq, decide_eq_false_iff_not, Bool.not_true, Bool.not_false, Bool.not_eq_true', Bool.not_eq_false', Bool.not_eq_eq_eq_not, Decidable.not_not] at h_) <;> (try simp only [r10_14, q10, hid', hle, hset, h_, go_sem, Int.reduceTMod, Int.reduceTDiv, Int.reduceDiv, Int.reduceMod, Int.reduceAdd, Int.reduceSub, Int.reduceMul, Int.reduceNeg, Int.reducePow, Int.reduceEq, ↓reduceIte, Nat.reduceEqDiff, Nat.reduceAdd, Nat.reduceMul, Nat.reduceLeDiff, Nat.reduceSub, Nat.reduceLT, Int.reduceToNat, Int.reduceLT, Int.reduceLE, reduceCtorEq]))
  refine next _ _ _ c' (by omega) (ho.keep (Nat.le_refl _) (fun j hj => ?_)) (fun j hj => ?_) (upd_same _ _ _) (fun j h1 h2 h3 => ?_) ?_ ?_
  · rw [hs] at hj
    simp only [Option.some.injEq] at hj
    exact upd_ne _ _ (by omega)
  · rw [hs] at hj
    simp only [Option.some.injEq] at hj
    omega
  · rw [upd_ne _ _ h2, hf j (by omega) h3, upd_ne _ _ (by omega)]
  · simp only [go_sem, Int.reduceTMod, Int.reduceTDiv, Int.reduceDiv, Int.reduceMod, Int.reduceAdd, Int.reduceSub, Int.reduceMul, Int.reduceNeg, Int.reducePow, Int.reduceEq, ↓reduceIte, Nat.reduceEqDiff, Nat.reduceAdd, Nat.reduceMul, Nat.reduceLeDiff, Nat.reduceSub, Nat.reduceLT, Int.reduceToNat, Int.reduceLT, Int.reduceLE, reduceCtorEq]
  · simp only [go_sem, Int.reduceTMod, Int.reduceTDiv, Int.reduceDiv, Int.reduceMod, Int.reduceAdd, Int.reduceSub, Int.reduceMul, Int.reduceNeg, Int.reducePow, Int.reduceEq, ↓reduceIte, Nat.reduceEqDiff, Nat.reduceAdd, Nat.reduceMul, Nat.reduceLeDiff, Nat.reduceSub, Nat.reduceLT, Int.reduceToNat, Int.reduceLT, Int.reduceLE, reduceCtorEq]
/-- The last subpath is closed. -/
theorem flat_r16 {N id k2 : Nat} {M : Mem} {cl : Cell} {R : List Cell} {bb : Bool} {e : Nat → Reg} {K : Kt}
    (hid : M id = some ⟨R ++ [cl, .sc (.bool bb)], true⟩) (hR : R.length = k2) (q10 : e 10 = .one (.ptr id k2))
    (next : ∀ e' M', M' id = some ⟨R ++ [cl, .sc (.bool true)], true⟩ → (∀ j, j ≠ id → M' j = M j) → e' 3 = e 3 → e' 7 = e 7 → KN TA K ⟨e', M', N⟩) :
    RK TA r10_16 e M N K := by
  have hle := C_le1 (cl := cl) (v := .sc (.bool bb)) hR
  have hset := fun c => C_set1 (cl := cl) (v := .sc (.bool bb)) hR c
  generalize hC : R ++ [cl, .sc (.bool bb)] = C at *
  try simp only [r10_16, q10, hid, hle, hset, go_sem, Int.reduceTMod, Int.reduceTDiv, Int.reduceDiv, Int.reduceMod, Int.reduceAdd, Int.reduceSub, Int.reduceMul, Int.reduceNeg, Int.reducePow, Int.reduceEq, ↓reduceIte, Nat.reduceEqDiff, Nat.reduceAdd, Nat.reduceMul, Nat.reduceLeDiff, Nat.reduceSub, Nat.reduceLT, Int.reduceToNat, Int.reduceLT, Int.reduceLE, reduceCtorEq]
  repeat' ((first | refine FK_split (fun h_ => ?_) (fun h_ => ?_) | refine GK_split (fun h_ => ?_) (fun h_ => ?_) | refine ite_both (fun h_ => ?_) (fun h_ => ?_)) <;> (try simp only [decide_eq_true_eq, decide_eq_false_iff_not, Bool.not_true, Bool.not_false, Bool.not_eq_true', Bool.not_eq_false', Bool.not_eq_eq_eq_not, Decidable.not_not] at h_) <;> (try simp only [r10_16, q10, hid, hle, hset, h_, go_sem, Int.reduceTMod, Int.reduceTDiv, Int.reduceDiv, Int.reduceMod, Int.reduceAdd, Int.reduceSub, Int.reduceMul, Int.reduceNeg, Int.reducePow, Int.reduceEq, ↓reduceIte, Nat.reduceEqDiff, Nat.reduceAdd, Nat.reduceMul, Nat.reduceLeDiff, Nat.reduceSub, Nat.reduceLT, Int.reduceToNat, Int.reduceLT, Int.reduceLE, reduceCtorEq]))
  refine next _ _ (upd_same _ _ _) (fun j h => upd_ne _ _ h) ?_ ?_
  · simp only [go_sem, Int.reduceTMod, Int.reduceTDiv, Int.reduceDiv, Int.reduceMod, Int.reduceAdd, Int.reduceSub, Int.reduceMul, Int.reduceNeg, Int.reducePow, Int.reduceEq, ↓reduceIte, Nat.reduceEqDiff, Nat.reduceAdd, Nat.reduceMul, Nat.reduceLeDiff, Nat.reduceSub, Nat.reduceLT, Int.reduceToNat, Int.reduceLT, Int.reduceLE, reduceCtorEq]
  · simp only [go_sem, Int.reduceTMod, Int.reduceTDiv, Int.reduceDiv, Int.reduceMod, Int.reduceAdd, Int.reduceSub, Int.reduceMul, Int.reduceNeg, Int.reducePow, Int.reduceEq, ↓reduceIte, Nat.reduceEqDiff, Nat.reduceAdd, Nat.reduceMul, Nat.reduceLeDiff, Nat.reduceSub, Nat.reduceLT, Int.reduceToNat, Int.reduceLT, Int.reduceLE, reduceCtorEq]
theorem cv_pts {fr : Pt} {sg : Sg} (h : sg.k = 3 ∨ sg.k = 4) : (cvOf fr sg).pts = fr :: sg.pts.take (need sg.k).toNat := by
  obtain ⟨k, a, b, c⟩ := sg
  simp only at h
  rcases h with rfl | rfl <;> rfl
theorem cv_in {fr : Pt} {sg : Sg} (h : sg.k = 3 ∨ sg.k = 4) (h1 : inP fr = true) (h2 : (sg.pts.take (need sg.k).toNat).all inP = true) : (cvOf fr sg).inP = true := by
  have e : (cvOf fr sg).pts.all inP = (cvOf fr sg).inP := by cases cvOf fr sg <;> simp [Cu.Cv.pts, Cu.Cv.inP, Bool.and_assoc]
  rw [← e, cv_pts h, List.all_cons, h1, h2]
  rfl
/-- A curve behind the last subpath. -/
theorem flat_r19 {B n1 N sb fb dx id k2 d : Nat} {M : Mem} {cl : Cell} {R : List Cell} {bb : Bool} {L : List Pt} {sg : Sg} {fr : Pt} {ow : Bool} {e : Nat → Reg} {K : Kt}
    (hk : sg.k = 3 ∨ sg.k = 4) (hd : d ≤ 6) (hfr : inP fr = true) (hin : (sg.pts.take (need sg.k).toNat).all inP = true) (hz : M 0 = some ⟨needC, ow⟩) (hdx : M dx = some ⟨[I d], true⟩) (hdN : dx < N) (hfb : M fb = some ⟨fr.cs, true⟩) (q3 : e 3 = .one (.ptr dx 0)) (q8 : e 8 = .one (.ptr fb 0))
    (hid : M id = some ⟨R ++ [cl, .sc (.bool bb)], true⟩) (hR : R.length = k2) (hcl : OPd B M n1 cl L) (hn : n1 ≤ N) (hidN : id < N) (hne : sid (.one cl) ≠ some id) (hsb : M sb = some ⟨sg.cs, true⟩) (hsN : sb < N)
    (q9 : e 9 = .one (.ptr sb 0)) (q10 : e 10 = .one (.ptr id k2)) (hL : L.length + 64 ≤ 4294967296) (hB : B ≤ N) (hN0 : 0 < N)
    (next : ∀ e' M' N' c', N ≤ N' → OPd B M' N' c' (L ++ Cu.flat d (cvOf fr sg)) → (∀ j, sid (.one c') = some j → N ≤ j) → M' id = some ⟨R ++ [c', .sc (.bool bb)], true⟩ → (∀ j, j < N → j ≠ id → sid (.one cl) ≠ some j → M' j = M j) → e' 3 = e 3 → e' 7 = e 7 → KN TA K ⟨e', M', N'⟩) :
    XK TA (.preg 2 35 [(.t 9)] [(3, 64)] r10_19) ⟨e, M, N⟩ (.seq (.reg r10_20) K) := by
  have hat := C_at (cl := cl) (v := .sc (.bool bb)) hR
  have hle := C_le (cl := cl) (v := .sc (.bool bb)) hR
  have hset := fun c => C_set (cl := cl) (v := .sc (.bool bb)) hR c
  generalize hC : R ++ [cl, .sc (.bool bb)] = C at *
  have hnb := need_bd sg.k
  refine XK_preg ?_
  have hzf : frz M 0 = some ⟨needC, false⟩ := by rw [frz_at, hz]; rfl
  have hsf : frz M sb = some ⟨sg.cs, false⟩ := by rw [frz_at, hsb]; rfl
  show Fn TA _ [e 9] (frz M) N _
  rw [q9]
  refine (w_points (off := 0) (k := sg.k) (o := false) hzf hsf rfl (by simp)).mono ?_
  rintro r1 m1 n9 ⟨rfl, _, e9⟩
  refine ⟨Or.inr e9, ?_⟩
  have hxs : ∀ M' : Mem, M' sb = some ⟨sg.cs, true⟩ → RPt M' (N + 1) (.one (.sl sb (0 + 1) (need sg.k).toNat (some 3) 2)) (sg.pts.take (need sg.k).toNat) := fun M' h => by
    have hl : (sg.pts.take (need sg.k).toNat).length = (need sg.k).toNat := by rw [List.length_take]; have : sg.pts.length = 3 := rfl; omega
    refine Or.inr ⟨sb, 0 + 1, some 3, by rw [hl], by omega, ?_⟩
    rw [hl, rd_of h]
    obtain ⟨k, a, b, c⟩ := sg
    simp only at hk
    rcases hk with rfl | rfl <;> rfl
  try simp only [r10_19, setOp, List.set_cons_succ, List.set_cons_zero, q8, hfb, rd_of hfb, go_sem, Int.reduceTMod, Int.reduceTDiv, Int.reduceDiv, Int.reduceMod, Int.reduceAdd, Int.reduceSub, Int.reduceMul, Int.reduceNeg, Int.reducePow, Int.reduceEq, ↓reduceIte, Nat.reduceEqDiff, Nat.reduceAdd, Nat.reduceMul, Nat.reduceLeDiff, Nat.reduceSub, Nat.reduceLT, Int.reduceToNat, Int.reduceLT, Int.reduceLE, reduceCtorEq]
  repeat' ((first | refine FK_split (fun h_ => ?_) (fun h_ => ?_) | refine GK_split (fun h_ => ?_) (fun h_ => ?_) | refine ite_both (fun h_ => ?_) (fun h_ => ?_)) <;> (try simp only [decide_eq_true_eq, decide_eq_false_iff_not, Bool.not_true, Bool.not_false, Bool.not_eq_true', Bool.not_eq_false', Bool.not_eq_eq_eq_not, Decidable.not_not] at h_) <;> (try simp only [r10_19, setOp, List.set_cons_succ, List.set_cons_zero, q8, hfb, rd_of hfb, h_, go_sem, Int.reduceTMod, Int.reduceTDiv, Int.reduceDiv, Int.reduceMod, Int.reduceAdd, Int.reduceSub, Int.reduceMul, Int.reduceNeg, Int.reducePow, Int.reduceEq, ↓reduceIte, Nat.reduceEqDiff, Nat.reduceAdd, Nat.reduceMul, Nat.reduceLeDiff, Nat.reduceSub, Nat.reduceLT, Int.reduceToNat, Int.reduceLT, Int.reduceLE, reduceCtorEq]))
  refine K_appD (xs := sg.pts.take (need sg.k).toNat) (nx := N + 1) (l := [fr]) (n0 := N + 1) (base := N) (m0 := upd M N (some ⟨fr.cs, true⟩)) (Or.inr ⟨N, some 1, rfl, Nat.le_refl _, Nat.lt_succ_self _, upd_same _ _ _, Or.inr rfl⟩) (Nat.le_refl _) (fun _ _ => rfl)
    (hxs _ (by rw [upd_ne _ _ (by omega)]; exact hsb)) ?_ ?_ (by omega) ?_
  · obtain ⟨k, a, b, c⟩ := sg
    simp only at hk
    rcases hk with rfl | rfl <;> exact List.cons_ne_nil _ _
  · rw [List.length_take]
    have : sg.pts.length = 3 := rfl
    simp only [List.length_cons, List.length_nil]
    omega
  intro c' M1 ho hf hs
  rw [List.singleton_append, ← cv_pts hk] at ho
  have hdx1 : M1 dx = some ⟨[I d], true⟩ := by
    rw [hf dx (by omega) (by simp only [sid, ne_eq, Option.some.injEq]; omega), upd_ne _ _ (by omega)]
    exact hdx
  have hsN : ∀ j, j < N → M1 j = M j := fun j hj => by rw [hf j (by omega) (by simp only [sid, ne_eq, Option.some.injEq]; omega), upd_ne _ _ (by omega)]
  try simp only [q3, hdx1, go_sem, Int.reduceTMod, Int.reduceTDiv, Int.reduceDiv, Int.reduceMod, Int.reduceAdd, Int.reduceSub, Int.reduceMul, Int.reduceNeg, Int.reducePow, Int.reduceEq, ↓reduceIte, Nat.reduceEqDiff, Nat.reduceAdd, Nat.reduceMul, Nat.reduceLeDiff, Nat.reduceSub, Nat.reduceLT, Int.reduceToNat, Int.reduceLT, Int.reduceLE, reduceCtorEq]
  repeat' ((first | refine FK_split (fun h_ => ?_) (fun h_ => ?_) | refine GK_split (fun h_ => ?_) (fun h_ => ?_) | refine ite_both (fun h_ => ?_) (fun h_ => ?_)) <;> (try simp only [decide_eq_true_eq, decide_eq_false_iff_not, Bool.not_true, Bool.not_false, Bool.not_eq_true', Bool.not_eq_false', Bool.not_eq_eq_eq_not, Decidable.not_not] at h_) <;> (try simp only [q3, hdx1, h_, go_sem, Int.reduceTMod, Int.reduceTDiv, Int.reduceDiv, Int.reduceMod, Int.reduceAdd, Int.reduceSub, Int.reduceMul, Int.reduceNeg, Int.reducePow, Int.reduceEq, ↓reduceIte, Nat.reduceEqDiff, Nat.reduceAdd, Nat.reduceMul, Nat.reduceLeDiff, Nat.reduceSub, Nat.reduceLT, Int.reduceToNat, Int.reduceLT, Int.reduceLE, reduceCtorEq]))
  refine RK_callk ?_
  show Fn TA _ [.one c', RI d] (frz M1) (N + 2) _
  refine (Cu.Flat38 (cvOf fr sg) (.one c') d (frz M1) (N + 2) (pt_rp ho.rl.frz) (cv_in hk hfr hin) hd).mono ?_
  rintro _ m2 n2 ⟨rs, rfl, hn2, _, hOw⟩
  rw [show max (N + 2) n2 = n2 by omega]
  have hrs : RPt (unfrz M1 (N + 2) m2) n2 rs (Cu.flat d (cvOf fr sg)) := (rp_pt hOw.rd).nw (fun j hj => (hOw.lt hj).1)
  have hk2 : ∀ j, j < N → unfrz M1 (N + 2) m2 j = M j := fun j hj => by rw [unfrz_at, if_pos (by omega)]; exact hsN j hj
  generalize unfrz M1 (N + 2) m2 = M2 at *
  have hid2 : M2 id = some ⟨C, true⟩ := by rw [hk2 id hidN]; exact hid
  have hxN := na_0 hdN
  have hfl := Cu.flat_length d (cvOf fr sg)
  have hpw : (2 : Nat) ^ d ≤ 64 := by
    have : (2 : Nat) ^ d ≤ 2 ^ 6 := Nat.pow_le_pow_right (by omega) hd
    omega
  have hp0 : 0 < (2 : Nat) ^ d := Nat.two_pow_pos d
  try simp only [r10_20, q3, q10, hxN, hid2, hat, go_sem, Int.reduceTMod, Int.reduceTDiv, Int.reduceDiv, Int.reduceMod, Int.reduceAdd, Int.reduceSub, Int.reduceMul, Int.reduceNeg, Int.reducePow, Int.reduceEq, ↓reduceIte, Nat.reduceEqDiff, Nat.reduceAdd, Nat.reduceMul, Nat.reduceLeDiff, Nat.reduceSub, Nat.reduceLT, Int.reduceToNat, Int.reduceLT, Int.reduceLE, reduceCtorEq]
  repeat' ((first | refine FK_split (fun h_ => ?_) (fun h_ => ?_) | refine GK_split (fun h_ => ?_) (fun h_ => ?_) | refine ite_both (fun h_ => ?_) (fun h_ => ?_)) <;> (try simp only [decide_eq_true_eq, decide_eq_false_iff_not, Bool.not_true, Bool.not_false, Bool.not_eq_true', Bool.not_eq_false', Bool.not_eq_eq_eq_not, Decidable.not_not] at h_) <;> (try simp only [r10_20, q3, q10, hxN, hid2, hat, h_, go_sem, Int.reduceTMod, Int.reduceTDiv, Int.reduceDiv, Int.reduceMod, Int.reduceAdd, Int.reduceSub, Int.reduceMul, Int.reduceNeg, Int.reducePow, Int.reduceEq, ↓reduceIte, Nat.reduceEqDiff, Nat.reduceAdd, Nat.reduceMul, Nat.reduceLeDiff, Nat.reduceSub, Nat.reduceLT, Int.reduceToNat, Int.reduceLT, Int.reduceLE, reduceCtorEq]))
  refine K_appD (xs := Cu.flat d (cvOf fr sg)) (nx := n2) hcl (by omega) (fun j hj => hk2 j (by have := hcl.lt hj; omega)) hrs (fun h => by rw [h] at hfl; simp at hfl; omega) (by omega) (by omega) ?_
  intro c2 M3 ho3 hf3 hs3
  have hid3 : M3 id = some ⟨C, true⟩ := by rw [hf3 id (by omega) hne]; exact hid2
  try simp only [r10_20, q10, hid3, hle, hset, go_sem, Int.reduceTMod, Int.reduceTDiv, Int.reduceDiv, Int.reduceMod, Int.reduceAdd, Int.reduceSub, Int.reduceMul, Int.reduceNeg, Int.reducePow, Int.reduceEq, ↓reduceIte, Nat.reduceEqDiff, Nat.reduceAdd, Nat.reduceMul, Nat.reduceLeDiff, Nat.reduceSub, Nat.reduceLT, Int.reduceToNat, Int.reduceLT, Int.reduceLE, reduceCtorEq]
  repeat' ((first | refine FK_split (fun h_ => ?_) (fun h_ => ?_) | refine GK_split (fun h_ => ?_) (fun h_ => ?_) | refine ite_both (fun h_ => ?_) (fun h_ => ?_)) <;> (try simp only [decide_eq_true_eq, decide_eq_false_iff_not, Bool.not_true, Bool.not_false, Bool.not_eq_true', Bool.not_eq_false', Bool.not_eq_eq_eq_not, Decidable.not_not] at h_) <;> (try simp only [r10_20, q10, hid3, hle, hset, h_, go_sem, Int.reduceTMod, Int.reduceTDiv, Int.reduceDiv, Int.reduceMod, Int.reduceAdd, Int.reduceSub, Int.reduceMul, Int.reduceNeg, Int.reducePow, Int.reduceEq, ↓reduceIte, Nat.reduceEqDiff, Nat.reduceAdd, Nat.reduceMul, Nat.reduceLeDiff, Nat.reduceSub, Nat.reduceLT, Int.reduceToNat, Int.reduceLT, Int.reduceLE, reduceCtorEq]))
  refine next _ _ _ c2 (by omega) (ho3.keep (Nat.le_refl _) (fun j hj => ?_)) (fun j hj => ?_) (upd_same _ _ _) (fun j h1 h2 h3 => ?_) ?_ ?_
  · rw [hs3] at hj
    simp only [Option.some.injEq] at hj
    exact upd_ne _ _ (by omega)
  · rw [hs3] at hj
    simp only [Option.some.injEq] at hj
    omega
  · rw [upd_ne _ _ h2, hf3 j (by omega) h3, hk2 j h1]
  · simp only [go_sem, Int.reduceTMod, Int.reduceTDiv, Int.reduceDiv, Int.reduceMod, Int.reduceAdd, Int.reduceSub, Int.reduceMul, Int.reduceNeg, Int.reducePow, Int.reduceEq, ↓reduceIte, Nat.reduceEqDiff, Nat.reduceAdd, Nat.reduceMul, Nat.reduceLeDiff, Nat.reduceSub, Nat.reduceLT, Int.reduceToNat, Int.reduceLT, Int.reduceLE, reduceCtorEq]
  · simp only [go_sem, Int.reduceTMod, Int.reduceTDiv, Int.reduceDiv, Int.reduceMod, Int.reduceAdd, Int.reduceSub, Int.reduceMul, Int.reduceNeg, Int.reducePow, Int.reduceEq, ↓reduceIte, Nat.reduceEqDiff, Nat.reduceAdd, Nat.reduceMul, Nat.reduceLeDiff, Nat.reduceSub, Nat.reduceLT, Int.reduceToNat, Int.reduceLT, Int.reduceLE, reduceCtorEq]
end Go.Proofs.YtpleidpbapgmiaaDoor.Sy
