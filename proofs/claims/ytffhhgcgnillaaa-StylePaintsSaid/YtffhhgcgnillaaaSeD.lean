/- Styles: compared, checked. Conditions: those that each theorem names. -/
import Derived.Test.YtffhhgcgnillaaaSeC
namespace Go.Proofs.Ytffhhgcgnillaaa.Sy
open Go Go.Proofs
set_option linter.unusedSimpArgs false
set_option linter.unusedVariables false
set_option maxRecDepth 20000
attribute [local go_sem] XK_seq XK_block XK_skip XK_exit XK_ret XK_cond XK_reg XK_dreg XK_ureg KN_seq KN_blk KN_lp KN_chk KN_chku KN_top KN_fin KX_seq KX_lp KX_blk KX_chk KX_top KR_seq KR_blk KR_lp KR_chk KR_top KR_fin FK_true FK_false RK_nil RK_mv RK_pick RK_alloc RK_box RK_build RK_bslice RK_load1 RK_loadA RK_store RK_nilchk RK_bin RK_beq RK_eqv RK_eqnil RK_un RK_conv RK_mkfn RK_mkslice RK_slS RK_slA RK_fadr RK_fld RK_iadrA RK_iadrS RK_idxA RK_istr RK_ext RK_lenC RK_cap RK_app RK_appz RK_pre RK_cpy RK_mn RK_mx RK_len RK_carry RK_clr carryR um0 um1 ThenK_some RK_guard GK_tt GK_ff GK_tf GK_ft GK_none QK_some RK_callQ RK_callZ RK_callT TK_some VK_clo RK_callV
  evalOp evO evOs upd_at unfrz_at putE_some putE_none boolOf_b boolOf_tup Option.map_some evRes pack_one pack_two pack_three pack_none List.getD_cons_zero List.getD_cons_succ getD_nil
  Option.some.injEq exists_eq_left' Reg.cs? fillC setL List.set_cons_zero List.set_cons_succ List.length_cons List.length_nil rd_upd rd_updn rdB wr List.drop_zero List.drop_succ_cons List.take_succ_cons List.take_zero List.getElem?_cons_zero List.getElem?_cons_succ
  ix Int.toNat_zero lenO_sl lenO_nil nadd na_eq na_eq' na_lt na_ee na_ll na_ne na_ne' na_tt
attribute [local go_sem] Reg.flat_one Reg.flat_agg Reg.flat_tup flats_nil flats_cons Cell.flat_sc Cell.flat_ptr List.all_cons List.all_nil disOk safeOk safeR decide_eq_true_eq decide_eq_false_iff_not
  List.map_cons List.map_nil List.cons_append List.nil_append List.append_nil evalOp.capsOf Bool.false_bne Bool.bne_false Bool.true_bne Bool.bne_true bne_self_eq_false beq_self_eq_true Bool.not_not Bool.false_and Bool.and_false Bool.true_or Bool.or_true beq_iff_eq eqCells
  Bool.true_beq Bool.false_beq Bool.not_eq_true' Bool.not_eq_eq_eq_not Bool.not_eq_false' and_false false_and frz_at idOf noId Option.isSome_some Bool.and_eq_true
attribute [local go_sem] wr_eq bV_add bV_sub bV_mul bV_eql bV_neq bV_lss bV_leq bV_gtr bV_geq bV_quo bV_rem bV_shr bV_shl uV_not uV_neg wrapU bits_and bits_or bits_xor IntKind.bits Nat.min_eq_left Nat.min_eq_right Nat.min_self
attribute [local go_sem] bne_iff_ne Int.cast_ofNat_Int Nat.zero_add Nat.add_zero and_self and_true true_and ne_eq not_false_eq_true not_true_eq_false decide_true decide_false Bool.false_eq_true Bool.not_true Bool.not_false Bool.true_and Bool.and_true Bool.or_false Bool.false_or Bool.and_self

structure Sty where
  fill : Pai
  pen : Pai
  rule : Int
  half : Int
  cap : Int
  dl : Cell
  ph : Int
  op : Int
  mode : Int
abbrev Sty.cs (s : Sty) : List Cell := [I s.fill.k, U8 s.fill.c0, U8 s.fill.c1, U8 s.fill.c2, U8 s.fill.c3, I s.fill.fx, I s.fill.fy, I s.fill.tx, I s.fill.ty, s.fill.st,
  I s.pen.k, U8 s.pen.c0, U8 s.pen.c1, U8 s.pen.c2, U8 s.pen.c3, I s.pen.fx, I s.pen.fy, I s.pen.tx, I s.pen.ty, s.pen.st, I s.rule, I s.half, I s.cap, s.dl, I s.ph, I s.op, I s.mode]
/-- What lies below n is as it was. -/
def FrB (n : Nat) (m M : Mem) : Prop := ∀ id, id < n → M id = m id
theorem FrB_refl (n : Nat) (m : Mem) : FrB n m m = True := eq_true fun _ _ => rfl
theorem FrB_upd (n k : Nat) (m M : Mem) (b : Option Blk) : FrB n m (upd M (n + k) b) = FrB n m M := by
  apply propext
  constructor
  · intro h id hid
    have := h id hid
    rwa [upd_ne _ _ (by omega)] at this
  · intro h id hid
    rw [upd_ne _ _ (by omega)]
    exact h id hid
theorem FrB_upd0 (n : Nat) (m M : Mem) (b : Option Blk) : FrB n m (upd M n b) = FrB n m M := FrB_upd n 0 m M b
theorem rl_fr {α : Type} {enc : α → List Cell} {sz n N : Nat} {m M : Mem} {r : Reg} {l : List α} (h : RL enc sz m n r l) (hM : FrB n m M) (hN : n ≤ N) : RL enc sz (frz M) N r l := (h.keep hN hM).frz
structure SRel (m : Mem) (n : Nat) (s : Sty) (lf lp : List Stp) (ld : List Int) : Prop where
  f : RSt m n (.one s.fill.st) lf
  p : RSt m n (.one s.pen.st) lp
  d : RIn m n (.one s.dl) ld
theorem SRel.keep {m m' : Mem} {n n' : Nat} {s : Sty} {lf lp : List Stp} {ld : List Int} (h : SRel m n s lf lp ld) (hn : n ≤ n') (hm : ∀ id, id < n → m' id = m id) : SRel m' n' s lf lp ld := ⟨h.f.keep hn hm, h.p.keep hn hm, h.d.keep hn hm⟩
theorem SRel.frz {m : Mem} {n : Nat} {s : Sty} {lf lp : List Stp} {ld : List Int} (h : SRel m n s lf lp ld) : SRel (frz m) n s lf lp ld := ⟨RL.frz h.f, RL.frz h.p, RL.frz h.d⟩
def styB (s o : Sty) (lf lf' lp lp' : List Stp) (ld ld' : List Int) : Bool := paiB s.fill o.fill lf lf' && (paiB s.pen o.pen lp lp' && (decide (s.rule = o.rule) && (decide (s.half = o.half) && (decide (s.cap = o.cap) && (decide (ld = ld') && (decide (s.ph = o.ph) && (decide (s.op = o.op) && decide (s.mode = o.mode))))))))
theorem v_SEqual (s o : Sty) (lf lf' lp lp' : List Stp) (ld ld' : List Int) (m : Mem) (n : Nat) (h1 : SRel m n s lf lp ld) (h2 : SRel m n o lf' lp' ld') (l1 : lf.length < 4294967296) (l2 : lp.length < 4294967296) (l3 : ld.length < 4294967296) :
    callF TA 21 [.agg s.cs, .agg o.cs] m n = some (RB (styB s o lf lf' lp lp' ld ld')) := by
  refine callF_of (Fn_ofK (fn := F21) rfl (by simp [F21]) ?_)
  have v1 := fun M N (hM : FrB n m M) (hN : n ≤ N) => v_PEqual s.fill o.fill lf lf' (frz M) N (rl_fr h1.f hM hN) (rl_fr h2.f hM hN) l1
  have v2 := fun M N (hM : FrB n m M) (hN : n ≤ N) => v_PEqual s.pen o.pen lp lp' (frz M) N (rl_fr h1.p hM hN) (rl_fr h2.p hM hN) l2
  have v3 := fun M N (hM : FrB n m M) (hN : n ≤ N) => v_EqI (.one s.dl) (.one o.dl) ld ld' (frz M) N (rl_fr h1.d hM hN) (rl_fr h2.d hM hN) l3
  unfold styB
  cases a1 : paiB s.fill o.fill lf lf' <;> rw [a1] at v1
  · skip
    try simp only [r21_0, r21_1, c21, F21, v1, FrB_refl, FrB_upd, FrB_upd0, Nat.le_add_right, go_sem, Int.reduceTMod, Int.reduceTDiv, Int.reduceDiv, Int.reduceMod, Int.reduceAdd, Int.reduceSub, Int.reduceMul, Int.reduceNeg, Int.reducePow, Int.reduceEq, ↓reduceIte, Nat.reduceEqDiff, Nat.reduceAdd, Nat.reduceMul, Nat.reduceLeDiff, Nat.reduceSub, Nat.reduceLT, Int.reduceToNat, Int.reduceLT, Int.reduceLE, reduceCtorEq]
    repeat' ((first | refine FK_split (fun h_ => ?_) (fun h_ => ?_) | refine GK_split (fun h_ => ?_) (fun h_ => ?_) | refine ite_both (fun h_ => ?_) (fun h_ => ?_)) <;> (try simp only [decide_eq_true_eq, decide_eq_false_iff_not, Bool.not_true, Bool.not_false, Bool.not_eq_true', Bool.not_eq_false', Bool.not_eq_eq_eq_not, Decidable.not_not] at h_) <;> (try simp only [r21_0, r21_1, c21, F21, v1, FrB_refl, FrB_upd, FrB_upd0, Nat.le_add_right, h_, go_sem, Int.reduceTMod, Int.reduceTDiv, Int.reduceDiv, Int.reduceMod, Int.reduceAdd, Int.reduceSub, Int.reduceMul, Int.reduceNeg, Int.reducePow, Int.reduceEq, ↓reduceIte, Nat.reduceEqDiff, Nat.reduceAdd, Nat.reduceMul, Nat.reduceLeDiff, Nat.reduceSub, Nat.reduceLT, Int.reduceToNat, Int.reduceLT, Int.reduceLE, reduceCtorEq]))
  · cases a2 : paiB s.pen o.pen lp lp' <;> rw [a2] at v2
    · skip
      try simp only [r21_0, r21_1, c21, F21, v1, v2, FrB_refl, FrB_upd, FrB_upd0, Nat.le_add_right, go_sem, Int.reduceTMod, Int.reduceTDiv, Int.reduceDiv, Int.reduceMod, Int.reduceAdd, Int.reduceSub, Int.reduceMul, Int.reduceNeg, Int.reducePow, Int.reduceEq, ↓reduceIte, Nat.reduceEqDiff, Nat.reduceAdd, Nat.reduceMul, Nat.reduceLeDiff, Nat.reduceSub, Nat.reduceLT, Int.reduceToNat, Int.reduceLT, Int.reduceLE, reduceCtorEq]
      repeat' ((first | refine FK_split (fun h_ => ?_) (fun h_ => ?_) | refine GK_split (fun h_ => ?_) (fun h_ => ?_) | refine ite_both (fun h_ => ?_) (fun h_ => ?_)) <;> (try simp only [decide_eq_true_eq, decide_eq_false_iff_not, Bool.not_true, Bool.not_false, Bool.not_eq_true', Bool.not_eq_false', Bool.not_eq_eq_eq_not, Decidable.not_not] at h_) <;> (try simp only [r21_0, r21_1, c21, F21, v1, v2, FrB_refl, FrB_upd, FrB_upd0, Nat.le_add_right, h_, go_sem, Int.reduceTMod, Int.reduceTDiv, Int.reduceDiv, Int.reduceMod, Int.reduceAdd, Int.reduceSub, Int.reduceMul, Int.reduceNeg, Int.reducePow, Int.reduceEq, ↓reduceIte, Nat.reduceEqDiff, Nat.reduceAdd, Nat.reduceMul, Nat.reduceLeDiff, Nat.reduceSub, Nat.reduceLT, Int.reduceToNat, Int.reduceLT, Int.reduceLE, reduceCtorEq]))
    · by_cases a3 : s.rule = o.rule
      · by_cases a4 : s.half = o.half
        · by_cases a5 : s.cap = o.cap
          · cases a6 : decide (ld = ld') <;> rw [a6] at v3
            · skip
              try simp only [r21_0, r21_1, c21, F21, v1, v2, v3, a3, a4, a5, FrB_refl, FrB_upd, FrB_upd0, Nat.le_add_right, go_sem, Int.reduceTMod, Int.reduceTDiv, Int.reduceDiv, Int.reduceMod, Int.reduceAdd, Int.reduceSub, Int.reduceMul, Int.reduceNeg, Int.reducePow, Int.reduceEq, ↓reduceIte, Nat.reduceEqDiff, Nat.reduceAdd, Nat.reduceMul, Nat.reduceLeDiff, Nat.reduceSub, Nat.reduceLT, Int.reduceToNat, Int.reduceLT, Int.reduceLE, reduceCtorEq]
              repeat' ((first | refine FK_split (fun h_ => ?_) (fun h_ => ?_) | refine GK_split (fun h_ => ?_) (fun h_ => ?_) | refine ite_both (fun h_ => ?_) (fun h_ => ?_)) <;> (try simp only [decide_eq_true_eq, decide_eq_false_iff_not, Bool.not_true, Bool.not_false, Bool.not_eq_true', Bool.not_eq_false', Bool.not_eq_eq_eq_not, Decidable.not_not] at h_) <;> (try simp only [r21_0, r21_1, c21, F21, v1, v2, v3, a3, a4, a5, FrB_refl, FrB_upd, FrB_upd0, Nat.le_add_right, h_, go_sem, Int.reduceTMod, Int.reduceTDiv, Int.reduceDiv, Int.reduceMod, Int.reduceAdd, Int.reduceSub, Int.reduceMul, Int.reduceNeg, Int.reducePow, Int.reduceEq, ↓reduceIte, Nat.reduceEqDiff, Nat.reduceAdd, Nat.reduceMul, Nat.reduceLeDiff, Nat.reduceSub, Nat.reduceLT, Int.reduceToNat, Int.reduceLT, Int.reduceLE, reduceCtorEq]))
            · by_cases a7 : s.ph = o.ph
              · by_cases a8 : s.op = o.op
                · skip
                  try simp only [r21_0, r21_1, c21, F21, v1, v2, v3, a3, a4, a5, a7, a8, FrB_refl, FrB_upd, FrB_upd0, Nat.le_add_right, go_sem, Int.reduceTMod, Int.reduceTDiv, Int.reduceDiv, Int.reduceMod, Int.reduceAdd, Int.reduceSub, Int.reduceMul, Int.reduceNeg, Int.reducePow, Int.reduceEq, ↓reduceIte, Nat.reduceEqDiff, Nat.reduceAdd, Nat.reduceMul, Nat.reduceLeDiff, Nat.reduceSub, Nat.reduceLT, Int.reduceToNat, Int.reduceLT, Int.reduceLE, reduceCtorEq]
                  repeat' ((first | refine FK_split (fun h_ => ?_) (fun h_ => ?_) | refine GK_split (fun h_ => ?_) (fun h_ => ?_) | refine ite_both (fun h_ => ?_) (fun h_ => ?_)) <;> (try simp only [decide_eq_true_eq, decide_eq_false_iff_not, Bool.not_true, Bool.not_false, Bool.not_eq_true', Bool.not_eq_false', Bool.not_eq_eq_eq_not, Decidable.not_not] at h_) <;> (try simp only [r21_0, r21_1, c21, F21, v1, v2, v3, a3, a4, a5, a7, a8, FrB_refl, FrB_upd, FrB_upd0, Nat.le_add_right, h_, go_sem, Int.reduceTMod, Int.reduceTDiv, Int.reduceDiv, Int.reduceMod, Int.reduceAdd, Int.reduceSub, Int.reduceMul, Int.reduceNeg, Int.reducePow, Int.reduceEq, ↓reduceIte, Nat.reduceEqDiff, Nat.reduceAdd, Nat.reduceMul, Nat.reduceLeDiff, Nat.reduceSub, Nat.reduceLT, Int.reduceToNat, Int.reduceLT, Int.reduceLE, reduceCtorEq]))
                · skip
                  try simp only [r21_0, r21_1, c21, F21, v1, v2, v3, a3, a4, a5, a7, a8, FrB_refl, FrB_upd, FrB_upd0, Nat.le_add_right, go_sem, Int.reduceTMod, Int.reduceTDiv, Int.reduceDiv, Int.reduceMod, Int.reduceAdd, Int.reduceSub, Int.reduceMul, Int.reduceNeg, Int.reducePow, Int.reduceEq, ↓reduceIte, Nat.reduceEqDiff, Nat.reduceAdd, Nat.reduceMul, Nat.reduceLeDiff, Nat.reduceSub, Nat.reduceLT, Int.reduceToNat, Int.reduceLT, Int.reduceLE, reduceCtorEq]
                  repeat' ((first | refine FK_split (fun h_ => ?_) (fun h_ => ?_) | refine GK_split (fun h_ => ?_) (fun h_ => ?_) | refine ite_both (fun h_ => ?_) (fun h_ => ?_)) <;> (try simp only [decide_eq_true_eq, decide_eq_false_iff_not, Bool.not_true, Bool.not_false, Bool.not_eq_true', Bool.not_eq_false', Bool.not_eq_eq_eq_not, Decidable.not_not] at h_) <;> (try simp only [r21_0, r21_1, c21, F21, v1, v2, v3, a3, a4, a5, a7, a8, FrB_refl, FrB_upd, FrB_upd0, Nat.le_add_right, h_, go_sem, Int.reduceTMod, Int.reduceTDiv, Int.reduceDiv, Int.reduceMod, Int.reduceAdd, Int.reduceSub, Int.reduceMul, Int.reduceNeg, Int.reducePow, Int.reduceEq, ↓reduceIte, Nat.reduceEqDiff, Nat.reduceAdd, Nat.reduceMul, Nat.reduceLeDiff, Nat.reduceSub, Nat.reduceLT, Int.reduceToNat, Int.reduceLT, Int.reduceLE, reduceCtorEq]))
              · skip
                try simp only [r21_0, r21_1, c21, F21, v1, v2, v3, a3, a4, a5, a7, FrB_refl, FrB_upd, FrB_upd0, Nat.le_add_right, go_sem, Int.reduceTMod, Int.reduceTDiv, Int.reduceDiv, Int.reduceMod, Int.reduceAdd, Int.reduceSub, Int.reduceMul, Int.reduceNeg, Int.reducePow, Int.reduceEq, ↓reduceIte, Nat.reduceEqDiff, Nat.reduceAdd, Nat.reduceMul, Nat.reduceLeDiff, Nat.reduceSub, Nat.reduceLT, Int.reduceToNat, Int.reduceLT, Int.reduceLE, reduceCtorEq]
                repeat' ((first | refine FK_split (fun h_ => ?_) (fun h_ => ?_) | refine GK_split (fun h_ => ?_) (fun h_ => ?_) | refine ite_both (fun h_ => ?_) (fun h_ => ?_)) <;> (try simp only [decide_eq_true_eq, decide_eq_false_iff_not, Bool.not_true, Bool.not_false, Bool.not_eq_true', Bool.not_eq_false', Bool.not_eq_eq_eq_not, Decidable.not_not] at h_) <;> (try simp only [r21_0, r21_1, c21, F21, v1, v2, v3, a3, a4, a5, a7, FrB_refl, FrB_upd, FrB_upd0, Nat.le_add_right, h_, go_sem, Int.reduceTMod, Int.reduceTDiv, Int.reduceDiv, Int.reduceMod, Int.reduceAdd, Int.reduceSub, Int.reduceMul, Int.reduceNeg, Int.reducePow, Int.reduceEq, ↓reduceIte, Nat.reduceEqDiff, Nat.reduceAdd, Nat.reduceMul, Nat.reduceLeDiff, Nat.reduceSub, Nat.reduceLT, Int.reduceToNat, Int.reduceLT, Int.reduceLE, reduceCtorEq]))
          · skip
            try simp only [r21_0, r21_1, c21, F21, v1, v2, a3, a4, a5, FrB_refl, FrB_upd, FrB_upd0, Nat.le_add_right, go_sem, Int.reduceTMod, Int.reduceTDiv, Int.reduceDiv, Int.reduceMod, Int.reduceAdd, Int.reduceSub, Int.reduceMul, Int.reduceNeg, Int.reducePow, Int.reduceEq, ↓reduceIte, Nat.reduceEqDiff, Nat.reduceAdd, Nat.reduceMul, Nat.reduceLeDiff, Nat.reduceSub, Nat.reduceLT, Int.reduceToNat, Int.reduceLT, Int.reduceLE, reduceCtorEq]
            repeat' ((first | refine FK_split (fun h_ => ?_) (fun h_ => ?_) | refine GK_split (fun h_ => ?_) (fun h_ => ?_) | refine ite_both (fun h_ => ?_) (fun h_ => ?_)) <;> (try simp only [decide_eq_true_eq, decide_eq_false_iff_not, Bool.not_true, Bool.not_false, Bool.not_eq_true', Bool.not_eq_false', Bool.not_eq_eq_eq_not, Decidable.not_not] at h_) <;> (try simp only [r21_0, r21_1, c21, F21, v1, v2, a3, a4, a5, FrB_refl, FrB_upd, FrB_upd0, Nat.le_add_right, h_, go_sem, Int.reduceTMod, Int.reduceTDiv, Int.reduceDiv, Int.reduceMod, Int.reduceAdd, Int.reduceSub, Int.reduceMul, Int.reduceNeg, Int.reducePow, Int.reduceEq, ↓reduceIte, Nat.reduceEqDiff, Nat.reduceAdd, Nat.reduceMul, Nat.reduceLeDiff, Nat.reduceSub, Nat.reduceLT, Int.reduceToNat, Int.reduceLT, Int.reduceLE, reduceCtorEq]))
        · skip
          try simp only [r21_0, r21_1, c21, F21, v1, v2, a3, a4, FrB_refl, FrB_upd, FrB_upd0, Nat.le_add_right, go_sem, Int.reduceTMod, Int.reduceTDiv, Int.reduceDiv, Int.reduceMod, Int.reduceAdd, Int.reduceSub, Int.reduceMul, Int.reduceNeg, Int.reducePow, Int.reduceEq, ↓reduceIte, Nat.reduceEqDiff, Nat.reduceAdd, Nat.reduceMul, Nat.reduceLeDiff, Nat.reduceSub, Nat.reduceLT, Int.reduceToNat, Int.reduceLT, Int.reduceLE, reduceCtorEq]
          repeat' ((first | refine FK_split (fun h_ => ?_) (fun h_ => ?_) | refine GK_split (fun h_ => ?_) (fun h_ => ?_) | refine ite_both (fun h_ => ?_) (fun h_ => ?_)) <;> (try simp only [decide_eq_true_eq, decide_eq_false_iff_not, Bool.not_true, Bool.not_false, Bool.not_eq_true', Bool.not_eq_false', Bool.not_eq_eq_eq_not, Decidable.not_not] at h_) <;> (try simp only [r21_0, r21_1, c21, F21, v1, v2, a3, a4, FrB_refl, FrB_upd, FrB_upd0, Nat.le_add_right, h_, go_sem, Int.reduceTMod, Int.reduceTDiv, Int.reduceDiv, Int.reduceMod, Int.reduceAdd, Int.reduceSub, Int.reduceMul, Int.reduceNeg, Int.reducePow, Int.reduceEq, ↓reduceIte, Nat.reduceEqDiff, Nat.reduceAdd, Nat.reduceMul, Nat.reduceLeDiff, Nat.reduceSub, Nat.reduceLT, Int.reduceToNat, Int.reduceLT, Int.reduceLE, reduceCtorEq]))
      · skip
        try simp only [r21_0, r21_1, c21, F21, v1, v2, a3, FrB_refl, FrB_upd, FrB_upd0, Nat.le_add_right, go_sem, Int.reduceTMod, Int.reduceTDiv, Int.reduceDiv, Int.reduceMod, Int.reduceAdd, Int.reduceSub, Int.reduceMul, Int.reduceNeg, Int.reducePow, Int.reduceEq, ↓reduceIte, Nat.reduceEqDiff, Nat.reduceAdd, Nat.reduceMul, Nat.reduceLeDiff, Nat.reduceSub, Nat.reduceLT, Int.reduceToNat, Int.reduceLT, Int.reduceLE, reduceCtorEq]
        repeat' ((first | refine FK_split (fun h_ => ?_) (fun h_ => ?_) | refine GK_split (fun h_ => ?_) (fun h_ => ?_) | refine ite_both (fun h_ => ?_) (fun h_ => ?_)) <;> (try simp only [decide_eq_true_eq, decide_eq_false_iff_not, Bool.not_true, Bool.not_false, Bool.not_eq_true', Bool.not_eq_false', Bool.not_eq_eq_eq_not, Decidable.not_not] at h_) <;> (try simp only [r21_0, r21_1, c21, F21, v1, v2, a3, FrB_refl, FrB_upd, FrB_upd0, Nat.le_add_right, h_, go_sem, Int.reduceTMod, Int.reduceTDiv, Int.reduceDiv, Int.reduceMod, Int.reduceAdd, Int.reduceSub, Int.reduceMul, Int.reduceNeg, Int.reducePow, Int.reduceEq, ↓reduceIte, Nat.reduceEqDiff, Nat.reduceAdd, Nat.reduceMul, Nat.reduceLeDiff, Nat.reduceSub, Nat.reduceLT, Int.reduceToNat, Int.reduceLT, Int.reduceLE, reduceCtorEq]))
/-- The error's number of a style. -/
def rngP (s : Sty) : Prop := (1 ≤ s.rule ∧ s.rule ≤ 2) ∧ (0 ≤ s.half ∧ s.half ≤ 32768) ∧ (0 ≤ s.cap ∧ s.cap ≤ 2) ∧ (0 ≤ s.op ∧ s.op ≤ 255) ∧ 0 ≤ s.mode ∧ s.mode ≤ 4
instance (s : Sty) : Decidable (rngP s) := by unfold rngP; infer_instance
def styV (s : Sty) (lf lp : List Stp) (ld : List Int) : Int :=
  if rightV s.fill lf ≠ 0 then rightV s.fill lf else if rightV s.pen lp ≠ 0 then rightV s.pen lp else if rngP s then (if rightB ld s.ph = true then 0 else 30) else 30
theorem v_SCheck (s : Sty) (lf lp : List Stp) (ld : List Int) (m : Mem) (n : Nat) (h1 : SRel m n s lf lp ld) (l1 : lf.length < 4294967296) (l2 : lp.length < 4294967296) (l3 : ld.length < 4294967296) :
    callF TA 24 [.agg s.cs] m n = some (RI (styV s lf lp ld)) := by
  refine callF_of (Fn_ofK (fn := F24) rfl (by simp [F24]) ?_)
  have v1 := fun M N (hM : FrB n m M) (hN : n ≤ N) => v_PCheck s.fill lf (frz M) N (rl_fr h1.f hM hN) l1
  have v2 := fun M N (hM : FrB n m M) (hN : n ≤ N) => v_PCheck s.pen lp (frz M) N (rl_fr h1.p hM hN) l2
  have v3 := fun M N (hM : FrB n m M) (hN : n ≤ N) => v_Check s.dl ld s.ph (frz M) N (rl_fr h1.d hM hN) l3
  unfold styV
  by_cases a1 : rightV s.fill lf = 0
  · rw [if_neg (fun h => h a1)]
    rw [a1] at v1
    by_cases a2 : rightV s.pen lp = 0
    · rw [if_neg (fun h => h a2)]
      rw [a2] at v2
      have r15 : List.replicate 15 (I 0) = [I 0, I 0, I 0, I 0, I 0, I 0, I 0, I 0, I 0, I 0, I 0, I 0, I 0, I 0, I 0] := rfl
      by_cases hg : rngP s
      · rw [if_pos hg]
        obtain ⟨⟨b1, b2⟩, ⟨b3, b4⟩, ⟨b5, b6⟩, ⟨b7, b8⟩, b9, b10⟩ := hg
        have c1 : (s.rule < 1) = False := eq_false (by omega)
        have c2 : (2 < s.rule) = False := eq_false (by omega)
        have c3 : (s.half < 0) = False := eq_false (by omega)
        have c4 : (32768 < s.half) = False := eq_false (by omega)
        have c5 : (s.cap < 0) = False := eq_false (by omega)
        have c6 : (2 < s.cap) = False := eq_false (by omega)
        have c7 : (s.op < 0) = False := eq_false (by omega)
        have c8 : (255 < s.op) = False := eq_false (by omega)
        have c9 : (s.mode < 0) = False := eq_false (by omega)
        have c10 : (4 < s.mode) = False := eq_false (by omega)
        try simp only [r24_0, r24_1, r24_2, r24_3, r24_4, r24_5, r24_6, r24_7, r24_8, r24_9, r24_10, r24_11, r24_12, r24_13, r24_14, c24, F24, l24_0, l24_1, XK_loop, r15, v1, v2, v3, c1, c2, c3, c4, c5, c6, c7, c8, c9, c10, FrB_refl, FrB_upd, FrB_upd0, Nat.le_add_right, go_sem, Int.reduceTMod, Int.reduceTDiv, Int.reduceDiv, Int.reduceMod, Int.reduceAdd, Int.reduceSub, Int.reduceMul, Int.reduceNeg, Int.reducePow, Int.reduceEq, ↓reduceIte, Nat.reduceEqDiff, Nat.reduceAdd, Nat.reduceMul, Nat.reduceLeDiff, Nat.reduceSub, Nat.reduceLT, Int.reduceToNat, Int.reduceLT, Int.reduceLE, reduceCtorEq]
        repeat' ((first | refine FK_split (fun h_ => ?_) (fun h_ => ?_) | refine GK_split (fun h_ => ?_) (fun h_ => ?_) | refine ite_both (fun h_ => ?_) (fun h_ => ?_)) <;> (try simp only [decide_eq_true_eq, decide_eq_false_iff_not, Bool.not_true, Bool.not_false, Bool.not_eq_true', Bool.not_eq_false', Bool.not_eq_eq_eq_not, Decidable.not_not] at h_) <;> (try simp only [r24_0, r24_1, r24_2, r24_3, r24_4, r24_5, r24_6, r24_7, r24_8, r24_9, r24_10, r24_11, r24_12, r24_13, r24_14, c24, F24, l24_0, l24_1, XK_loop, r15, v1, v2, v3, c1, c2, c3, c4, c5, c6, c7, c8, c9, c10, FrB_refl, FrB_upd, FrB_upd0, Nat.le_add_right, h_, go_sem, Int.reduceTMod, Int.reduceTDiv, Int.reduceDiv, Int.reduceMod, Int.reduceAdd, Int.reduceSub, Int.reduceMul, Int.reduceNeg, Int.reducePow, Int.reduceEq, ↓reduceIte, Nat.reduceEqDiff, Nat.reduceAdd, Nat.reduceMul, Nat.reduceLeDiff, Nat.reduceSub, Nat.reduceLT, Int.reduceToNat, Int.reduceLT, Int.reduceLE, reduceCtorEq]))
      · rw [if_neg hg]
        try simp only [r24_0, r24_1, r24_2, r24_3, r24_4, r24_5, r24_6, r24_7, r24_8, r24_9, r24_10, r24_11, r24_12, r24_13, r24_14, c24, F24, l24_0, l24_1, XK_loop, r15, v1, v2, v3, FrB_refl, FrB_upd, FrB_upd0, Nat.le_add_right, go_sem, Int.reduceTMod, Int.reduceTDiv, Int.reduceDiv, Int.reduceMod, Int.reduceAdd, Int.reduceSub, Int.reduceMul, Int.reduceNeg, Int.reducePow, Int.reduceEq, ↓reduceIte, Nat.reduceEqDiff, Nat.reduceAdd, Nat.reduceMul, Nat.reduceLeDiff, Nat.reduceSub, Nat.reduceLT, Int.reduceToNat, Int.reduceLT, Int.reduceLE, reduceCtorEq]
        repeat' ((first | refine FK_split (fun h_ => ?_) (fun h_ => ?_) | refine GK_split (fun h_ => ?_) (fun h_ => ?_) | refine ite_both (fun h_ => ?_) (fun h_ => ?_)) <;> (try simp only [decide_eq_true_eq, decide_eq_false_iff_not, Bool.not_true, Bool.not_false, Bool.not_eq_true', Bool.not_eq_false', Bool.not_eq_eq_eq_not, Decidable.not_not] at h_) <;> (try simp only [r24_0, r24_1, r24_2, r24_3, r24_4, r24_5, r24_6, r24_7, r24_8, r24_9, r24_10, r24_11, r24_12, r24_13, r24_14, c24, F24, l24_0, l24_1, XK_loop, r15, v1, v2, v3, FrB_refl, FrB_upd, FrB_upd0, Nat.le_add_right, h_, go_sem, Int.reduceTMod, Int.reduceTDiv, Int.reduceDiv, Int.reduceMod, Int.reduceAdd, Int.reduceSub, Int.reduceMul, Int.reduceNeg, Int.reducePow, Int.reduceEq, ↓reduceIte, Nat.reduceEqDiff, Nat.reduceAdd, Nat.reduceMul, Nat.reduceLeDiff, Nat.reduceSub, Nat.reduceLT, Int.reduceToNat, Int.reduceLT, Int.reduceLE, reduceCtorEq]))
        all_goals exact absurd (by unfold rngP; omega) hg
    · rw [if_pos a2]
      try simp only [r24_0, r24_1, r24_2, r24_3, r24_4, r24_5, r24_6, r24_7, r24_8, r24_9, r24_10, r24_11, r24_12, r24_13, r24_14, c24, F24, l24_0, l24_1, XK_loop, v1, v2, a2, FrB_refl, FrB_upd, FrB_upd0, Nat.le_add_right, go_sem, Int.reduceTMod, Int.reduceTDiv, Int.reduceDiv, Int.reduceMod, Int.reduceAdd, Int.reduceSub, Int.reduceMul, Int.reduceNeg, Int.reducePow, Int.reduceEq, ↓reduceIte, Nat.reduceEqDiff, Nat.reduceAdd, Nat.reduceMul, Nat.reduceLeDiff, Nat.reduceSub, Nat.reduceLT, Int.reduceToNat, Int.reduceLT, Int.reduceLE, reduceCtorEq]
      repeat' ((first | refine FK_split (fun h_ => ?_) (fun h_ => ?_) | refine GK_split (fun h_ => ?_) (fun h_ => ?_) | refine ite_both (fun h_ => ?_) (fun h_ => ?_)) <;> (try simp only [decide_eq_true_eq, decide_eq_false_iff_not, Bool.not_true, Bool.not_false, Bool.not_eq_true', Bool.not_eq_false', Bool.not_eq_eq_eq_not, Decidable.not_not] at h_) <;> (try simp only [r24_0, r24_1, r24_2, r24_3, r24_4, r24_5, r24_6, r24_7, r24_8, r24_9, r24_10, r24_11, r24_12, r24_13, r24_14, c24, F24, l24_0, l24_1, XK_loop, v1, v2, a2, FrB_refl, FrB_upd, FrB_upd0, Nat.le_add_right, h_, go_sem, Int.reduceTMod, Int.reduceTDiv, Int.reduceDiv, Int.reduceMod, Int.reduceAdd, Int.reduceSub, Int.reduceMul, Int.reduceNeg, Int.reducePow, Int.reduceEq, ↓reduceIte, Nat.reduceEqDiff, Nat.reduceAdd, Nat.reduceMul, Nat.reduceLeDiff, Nat.reduceSub, Nat.reduceLT, Int.reduceToNat, Int.reduceLT, Int.reduceLE, reduceCtorEq]))
  · rw [if_pos a1]
    try simp only [r24_0, r24_1, r24_2, r24_3, r24_4, r24_5, r24_6, r24_7, r24_8, r24_9, r24_10, r24_11, r24_12, r24_13, r24_14, c24, F24, l24_0, l24_1, XK_loop, v1, a1, FrB_refl, FrB_upd, FrB_upd0, Nat.le_add_right, go_sem, Int.reduceTMod, Int.reduceTDiv, Int.reduceDiv, Int.reduceMod, Int.reduceAdd, Int.reduceSub, Int.reduceMul, Int.reduceNeg, Int.reducePow, Int.reduceEq, ↓reduceIte, Nat.reduceEqDiff, Nat.reduceAdd, Nat.reduceMul, Nat.reduceLeDiff, Nat.reduceSub, Nat.reduceLT, Int.reduceToNat, Int.reduceLT, Int.reduceLE, reduceCtorEq]
    repeat' ((first | refine FK_split (fun h_ => ?_) (fun h_ => ?_) | refine GK_split (fun h_ => ?_) (fun h_ => ?_) | refine ite_both (fun h_ => ?_) (fun h_ => ?_)) <;> (try simp only [decide_eq_true_eq, decide_eq_false_iff_not, Bool.not_true, Bool.not_false, Bool.not_eq_true', Bool.not_eq_false', Bool.not_eq_eq_eq_not, Decidable.not_not] at h_) <;> (try simp only [r24_0, r24_1, r24_2, r24_3, r24_4, r24_5, r24_6, r24_7, r24_8, r24_9, r24_10, r24_11, r24_12, r24_13, r24_14, c24, F24, l24_0, l24_1, XK_loop, v1, a1, FrB_refl, FrB_upd, FrB_upd0, Nat.le_add_right, h_, go_sem, Int.reduceTMod, Int.reduceTDiv, Int.reduceDiv, Int.reduceMod, Int.reduceAdd, Int.reduceSub, Int.reduceMul, Int.reduceNeg, Int.reducePow, Int.reduceEq, ↓reduceIte, Nat.reduceEqDiff, Nat.reduceAdd, Nat.reduceMul, Nat.reduceLeDiff, Nat.reduceSub, Nat.reduceLT, Int.reduceToNat, Int.reduceLT, Int.reduceLE, reduceCtorEq]))
end Go.Proofs.Ytffhhgcgnillaaa.Sy
