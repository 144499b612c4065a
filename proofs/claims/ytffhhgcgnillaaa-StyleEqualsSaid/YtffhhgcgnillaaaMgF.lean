import Derived.Test.YtffhhgcgnillaaaMgE
import Derived.ProofKit
import Derived.OpenShut
import Derived.Deep.Slices
/- The law StyleEquals walked. Conditions: those that each theorem names. -/
namespace Go.Proofs.Ytffhhgcgnillaaa.Sy
open Go Go.Proofs
set_option linter.unusedSimpArgs false
set_option linter.unusedVariables false
set_option maxRecDepth 20000
attribute [local go_sem] XK_seq XK_block XK_skip XK_exit XK_ret XK_cond XK_reg XK_dreg XK_ureg KN_seq KN_blk KN_lp KN_chk KN_chku KN_top KN_fin KX_seq KX_lp KX_blk KX_chk KX_top KR_seq KR_blk KR_lp KR_chk KR_top KR_fin FK_true FK_false RK_nil RK_mv RK_pick RK_alloc RK_box RK_build RK_bslice RK_load1 RK_loadA RK_store RK_nilchk RK_bin RK_beq RK_eqv RK_eqnil RK_un RK_conv RK_mkfn RK_mkslice RK_slS RK_slA RK_fadr RK_fld RK_iadrA RK_iadrS RK_idxA RK_ext RK_lenC RK_cap RK_app RK_cpy RK_mn RK_mx RK_len RK_carry RK_clr carryR um0 um1 ThenK_some RK_guard GK_tt GK_ff GK_tf GK_ft GK_none QK_some RK_callQ RK_callZ VK_clo RK_callV
  evalOp evO evOs upd_at unfrz_at putE_some putE_none boolOf_b boolOf_tup Option.map_some evRes pack_one pack_two pack_three pack_none List.getD_cons_zero List.getD_cons_succ getD_nil
  Option.some.injEq exists_eq_left' Reg.cs? fillC setL List.set_cons_zero List.set_cons_succ List.length_cons List.length_nil rd_upd rd_updn rdB wr List.drop_zero List.drop_succ_cons List.take_succ_cons List.take_zero List.getElem?_cons_zero List.getElem?_cons_succ
  ix Int.toNat_zero lenO_sl lenO_nil nadd na_eq na_eq' na_lt na_ee na_ll na_ne na_ne' na_tt
attribute [local go_sem] Reg.flat_one Reg.flat_agg Reg.flat_tup flats_nil flats_cons Cell.flat_sc Cell.flat_ptr List.all_cons List.all_nil disOk safeOk safeR decide_eq_true_eq decide_eq_false_iff_not
  List.map_cons List.map_nil List.cons_append List.nil_append List.append_nil evalOp.capsOf Bool.false_bne Bool.bne_false Bool.true_bne Bool.bne_true bne_self_eq_false beq_self_eq_true Bool.not_not Bool.false_and Bool.and_false Bool.true_or Bool.or_true beq_iff_eq eqCells
  Bool.true_beq Bool.false_beq Bool.not_eq_true' Bool.not_eq_eq_eq_not Bool.not_eq_false' and_false false_and frz_at idOf Option.isSome_some Bool.and_eq_true
attribute [local go_sem] wr_eq bV_add bV_sub bV_mul bV_eql bV_neq bV_lss bV_leq bV_gtr bV_geq bV_quo bV_rem bV_shr bV_shl uV_not uV_neg wrapU bits_and bits_or bits_xor IntKind.bits Nat.min_eq_left Nat.min_eq_right Nat.min_self
attribute [local go_sem] bne_iff_ne Int.cast_ofNat_Int Nat.zero_add Nat.add_zero and_self and_true true_and ne_eq not_false_eq_true not_true_eq_false decide_true decide_false Bool.false_eq_true Bool.not_true Bool.not_false Bool.true_and Bool.and_true Bool.or_false Bool.false_or Bool.and_self

theorem RL.upd {α : Type} {enc : α → List Cell} {sz : Nat} {m : Mem} {n j : Nat} {r : Reg} {l : List α} (h : RL enc sz m n r l) (hj : sid r ≠ some j) (b : Option Blk) : RL enc sz (upd m j b) n r l :=
  h.keep' (Nat.le_refl _) (fun id hid => upd_ne _ _ (fun e => hj (by rw [← e]; exact hid)))
set_option maxHeartbeats 8000000 in
theorem law5 (s : Sty) (lf lp : List Stp) (ld : List Int) (k : Int) (m : Mem) (n : Nat) (h1 : SRel m n s lf lp ld) : Fn TA 5 [.agg s.cs, RI k] m n (fun r _ _ => r = RB true) := by
  refine Fn_ofK (fn := F5) rfl (by simp [F5]) ?_
  have vs := fun M N (hM : FrB n m M) (hN : n ≤ N) => v_small s lf lp ld (frz M) N (h1.keep hN hM).frz
  by_cases g : (lf.length : Int) ≤ 60 ∧ (lp.length : Int) ≤ 60 ∧ (ld.length : Int) ≤ 60
  · obtain ⟨g1, g2, g3⟩ := g
    simp only [decide_eq_true g1, decide_eq_true g2, decide_eq_true g3, Bool.and_self] at vs
    try simp only [F5, c5, r5_0, r5_1, r5_2, r5_3, r5_4, vs, FrB_refl, FrB_upd, FrB_upd0, Nat.le_add_right, go_sem, Int.reduceTMod, Int.reduceTDiv, Int.reduceDiv, Int.reduceMod, Int.reduceAdd, Int.reduceSub, Int.reduceMul, Int.reduceNeg, Int.reducePow, Int.reduceEq, ↓reduceIte, Nat.reduceEqDiff, Nat.reduceAdd, Nat.reduceMul, Nat.reduceLeDiff, Nat.reduceSub, Nat.reduceLT, Int.reduceToNat, Int.reduceLT, Int.reduceLE, reduceCtorEq]
    repeat' ((first | refine FK_split (fun h_ => ?_) (fun h_ => ?_) | refine GK_split (fun h_ => ?_) (fun h_ => ?_) | refine ite_both (fun h_ => ?_) (fun h_ => ?_)) <;> (try simp only [decide_eq_true_eq, decide_eq_false_iff_not, Bool.not_true, Bool.not_false, Bool.not_eq_true', Bool.not_eq_false', Bool.not_eq_eq_eq_not, Decidable.not_not] at h_) <;> (try simp only [F5, c5, r5_0, r5_1, r5_2, r5_3, r5_4, vs, FrB_refl, FrB_upd, FrB_upd0, Nat.le_add_right, h_, go_sem, Int.reduceTMod, Int.reduceTDiv, Int.reduceDiv, Int.reduceMod, Int.reduceAdd, Int.reduceSub, Int.reduceMul, Int.reduceNeg, Int.reducePow, Int.reduceEq, ↓reduceIte, Nat.reduceEqDiff, Nat.reduceAdd, Nat.reduceMul, Nat.reduceLeDiff, Nat.reduceSub, Nat.reduceLT, Int.reduceToNat, Int.reduceLT, Int.reduceLE, reduceCtorEq]))
    refine K_appE cs5 (h1.f.keep (by omega) (fun id hid => by rw [upd_ne _ _ (by omega), upd_ne _ _ (by omega), upd_ne _ _ (by omega)])) (by omega) ?_
    intro c1 m1 n1 hn1 hO1 hf1
    have hb0 : m1 n = some ⟨[I s.fill.k, U8 s.fill.c0, U8 s.fill.c1, U8 s.fill.c2, U8 s.fill.c3, I s.fill.fx, I s.fill.fy, I s.fill.tx, I s.fill.ty, s.fill.st, I s.pen.k, U8 s.pen.c0, U8 s.pen.c1, U8 s.pen.c2, U8 s.pen.c3, I s.pen.fx, I s.pen.fy, I s.pen.tx, I s.pen.ty, s.pen.st, I s.rule, I s.half, I s.cap, s.dl, I s.ph, I s.op, I s.mode], true⟩ := by rw [hf1 n (by omega), upd_ne _ _ (by omega), upd_ne _ _ (by omega), upd_same]
    have hb1 : m1 (n + 1) = some ⟨[I s.fill.k, U8 s.fill.c0, U8 s.fill.c1, U8 s.fill.c2, U8 s.fill.c3, I s.fill.fx, I s.fill.fy, I s.fill.tx, I s.fill.ty, s.fill.st, I s.pen.k, U8 s.pen.c0, U8 s.pen.c1, U8 s.pen.c2, U8 s.pen.c3, I s.pen.fx, I s.pen.fy, I s.pen.tx, I s.pen.ty, s.pen.st, I s.rule, I s.half, I s.cap, s.dl, I s.ph, I s.op, I s.mode], true⟩ := by rw [hf1 (n + 1) (by omega), upd_same]
    have hfm : ∀ id, id < n → m1 id = m id := fun id hid => by rw [hf1 id (by omega), upd_ne _ _ (by omega), upd_ne _ _ (by omega), upd_ne _ _ (by omega)]
    have z1 := na_0 (show n < n1 by omega)
    have z2 := na_0 (show n + 1 < n1 by omega)
    try simp only [r5_5, hb0, rd_of hb0, hb1, rd_of hb1, z1, z2, go_sem, Int.reduceTMod, Int.reduceTDiv, Int.reduceDiv, Int.reduceMod, Int.reduceAdd, Int.reduceSub, Int.reduceMul, Int.reduceNeg, Int.reducePow, Int.reduceEq, ↓reduceIte, Nat.reduceEqDiff, Nat.reduceAdd, Nat.reduceMul, Nat.reduceLeDiff, Nat.reduceSub, Nat.reduceLT, Int.reduceToNat, Int.reduceLT, Int.reduceLE, reduceCtorEq]
    repeat' ((first | refine FK_split (fun h_ => ?_) (fun h_ => ?_) | refine GK_split (fun h_ => ?_) (fun h_ => ?_) | refine ite_both (fun h_ => ?_) (fun h_ => ?_)) <;> (try simp only [decide_eq_true_eq, decide_eq_false_iff_not, Bool.not_true, Bool.not_false, Bool.not_eq_true', Bool.not_eq_false', Bool.not_eq_eq_eq_not, Decidable.not_not] at h_) <;> (try simp only [r5_5, hb0, rd_of hb0, hb1, rd_of hb1, z1, z2, h_, go_sem, Int.reduceTMod, Int.reduceTDiv, Int.reduceDiv, Int.reduceMod, Int.reduceAdd, Int.reduceSub, Int.reduceMul, Int.reduceNeg, Int.reducePow, Int.reduceEq, ↓reduceIte, Nat.reduceEqDiff, Nat.reduceAdd, Nat.reduceMul, Nat.reduceLeDiff, Nat.reduceSub, Nat.reduceLT, Int.reduceToNat, Int.reduceLT, Int.reduceLE, reduceCtorEq]))
    refine K_appE ci1 (h1.d.keep (by omega) (fun id hid => by rw [upd_ne _ _ (by omega)]; exact hfm id hid)) (by omega) ?_
    intro c2 m2 n2 hn2 hO2 hf2
    have hd0 : m2 n = some ⟨[I s.fill.k, U8 s.fill.c0, U8 s.fill.c1, U8 s.fill.c2, U8 s.fill.c3, I s.fill.fx, I s.fill.fy, I s.fill.tx, I s.fill.ty, s.fill.st, I s.pen.k, U8 s.pen.c0, U8 s.pen.c1, U8 s.pen.c2, U8 s.pen.c3, I s.pen.fx, I s.pen.fy, I s.pen.tx, I s.pen.ty, s.pen.st, I s.rule, I s.half, I s.cap, s.dl, I s.ph, I s.op, I s.mode], true⟩ := by rw [hf2 n (by omega), upd_ne _ _ (by omega)]; exact hb0
    have hd1 : m2 (n + 1) = some ⟨[I s.fill.k, U8 s.fill.c0, U8 s.fill.c1, U8 s.fill.c2, U8 s.fill.c3, I s.fill.fx, I s.fill.fy, I s.fill.tx, I s.fill.ty, c1, I s.pen.k, U8 s.pen.c0, U8 s.pen.c1, U8 s.pen.c2, U8 s.pen.c3, I s.pen.fx, I s.pen.fy, I s.pen.tx, I s.pen.ty, s.pen.st, I s.rule, I s.half, I s.cap, s.dl, I s.ph, I s.op, I s.mode], true⟩ := by rw [hf2 (n + 1) (by omega)]; simp only [go_sem, Int.reduceTMod, Int.reduceTDiv, Int.reduceDiv, Int.reduceMod, Int.reduceAdd, Int.reduceSub, Int.reduceMul, Int.reduceNeg, Int.reducePow, Int.reduceEq, ↓reduceIte, Nat.reduceEqDiff, Nat.reduceAdd, Nat.reduceMul, Nat.reduceLeDiff, Nat.reduceSub, Nat.reduceLT, Int.reduceToNat, Int.reduceLT, Int.reduceLE, reduceCtorEq]
    have hfm2 : ∀ id, id < n → m2 id = m id := fun id hid => by rw [hf2 id (by omega), upd_ne _ _ (by omega)]; exact hfm id hid
    have r1 : RSt m2 n2 (.one c1) lf := (hO1.rl cs5).keep' (by omega) (fun id hid => by
      obtain ⟨id', cap, e, q1, q2, q3, q4⟩ := hO1
      rw [e] at hid
      simp only [sid, Option.some.injEq] at hid
      rw [hf2 id (by omega), upd_ne _ _ (by omega)])
    have hO1' : OA Stp.cs 5 (n + 2) m2 n2 c1 lf := hO1.keep (by omega) (fun id q1 q2 => by rw [hf2 id (by omega), upd_ne _ _ (by omega)])
    obtain ⟨M, hM⟩ : ∃ M, M = upd m2 (n + 1) (some ⟨[I s.fill.k, U8 s.fill.c0, U8 s.fill.c1, U8 s.fill.c2, U8 s.fill.c3, I s.fill.fx, I s.fill.fy, I s.fill.tx, I s.fill.ty, c1, I s.pen.k, U8 s.pen.c0, U8 s.pen.c1, U8 s.pen.c2, U8 s.pen.c3, I s.pen.fx, I s.pen.fy, I s.pen.tx, I s.pen.ty, s.pen.st, I s.rule, I s.half, I s.cap, c2, I s.ph, I s.op, I s.mode], true⟩) := ⟨_, rfl⟩
    have gb0 : M n = some ⟨[I s.fill.k, U8 s.fill.c0, U8 s.fill.c1, U8 s.fill.c2, U8 s.fill.c3, I s.fill.fx, I s.fill.fy, I s.fill.tx, I s.fill.ty, s.fill.st, I s.pen.k, U8 s.pen.c0, U8 s.pen.c1, U8 s.pen.c2, U8 s.pen.c3, I s.pen.fx, I s.pen.fy, I s.pen.tx, I s.pen.ty, s.pen.st, I s.rule, I s.half, I s.cap, s.dl, I s.ph, I s.op, I s.mode], true⟩ := by rw [hM, upd_ne _ _ (by omega)]; exact hd0
    have gb1 : M (n + 1) = some ⟨[I s.fill.k, U8 s.fill.c0, U8 s.fill.c1, U8 s.fill.c2, U8 s.fill.c3, I s.fill.fx, I s.fill.fy, I s.fill.tx, I s.fill.ty, c1, I s.pen.k, U8 s.pen.c0, U8 s.pen.c1, U8 s.pen.c2, U8 s.pen.c3, I s.pen.fx, I s.pen.fy, I s.pen.tx, I s.pen.ty, s.pen.st, I s.rule, I s.half, I s.cap, c2, I s.ph, I s.op, I s.mode], true⟩ := by rw [hM, upd_same]
    have hfM : ∀ id, id < n → M id = m id := fun id hid => by rw [hM, upd_ne _ _ (by omega)]; exact hfm2 id hid
    have k1 : OA Stp.cs 5 (n + 2) M n2 c1 lf := hO1'.keep (Nat.le_refl _) (fun id q1 q2 => by rw [hM, upd_ne _ _ (by omega)])
    have k2 : OA encI 1 n1 M n2 c2 ld := hO2.keep (Nat.le_refl _) (fun id q1 q2 => by rw [hM, upd_ne _ _ (by omega)])
    try simp only [hd1, rd_of hd1, go_sem, Int.reduceTMod, Int.reduceTDiv, Int.reduceDiv, Int.reduceMod, Int.reduceAdd, Int.reduceSub, Int.reduceMul, Int.reduceNeg, Int.reducePow, Int.reduceEq, ↓reduceIte, Nat.reduceEqDiff, Nat.reduceAdd, Nat.reduceMul, Nat.reduceLeDiff, Nat.reduceSub, Nat.reduceLT, Int.reduceToNat, Int.reduceLT, Int.reduceLE, reduceCtorEq]
    repeat' ((first | refine FK_split (fun h_ => ?_) (fun h_ => ?_) | refine GK_split (fun h_ => ?_) (fun h_ => ?_) | refine ite_both (fun h_ => ?_) (fun h_ => ?_)) <;> (try simp only [decide_eq_true_eq, decide_eq_false_iff_not, Bool.not_true, Bool.not_false, Bool.not_eq_true', Bool.not_eq_false', Bool.not_eq_eq_eq_not, Decidable.not_not] at h_) <;> (try simp only [hd1, rd_of hd1, h_, go_sem, Int.reduceTMod, Int.reduceTDiv, Int.reduceDiv, Int.reduceMod, Int.reduceAdd, Int.reduceSub, Int.reduceMul, Int.reduceNeg, Int.reducePow, Int.reduceEq, ↓reduceIte, Nat.reduceEqDiff, Nat.reduceAdd, Nat.reduceMul, Nat.reduceLeDiff, Nat.reduceSub, Nat.reduceLT, Int.reduceToNat, Int.reduceLT, Int.reduceLE, reduceCtorEq]))
    rw [← hM]
    have hS : ∀ M' N', n2 ≤ N' → (∀ id, id < n → M' id = M id) → SRel M' N' s lf lp ld := fun M' N' hN hM' => h1.keep (by omega) (fun id hid => by rw [hM' id hid]; exact hfM id hid)
    have hT : ∀ (M' : Mem) N' c1' c2' lf' ld', n2 ≤ N' → (∀ id, id < n → M' id = M id) → RSt M' N' (.one c1') lf' → RIn M' N' (.one c2') ld' → ∀ T : Sty, T.fill.st = c1' → T.pen.st = s.pen.st → T.dl = c2' → SRel M' N' T lf' lp ld' := fun M' N' c1' c2' lf' ld' hN hM' q1 q2 T e1 e2 e3 =>
      ⟨by rw [e1]; exact q1, by rw [e2]; exact h1.p.keep (by omega) (fun id hid => by rw [hM' id hid]; exact hfM id hid), by rw [e3]; exact q2⟩
    have i1 : sid (.one c1) ≠ some (n + 1) := fun e => by
      obtain ⟨id', cap, e', q1, q2, q3, q4⟩ := k1
      rw [e'] at e
      simp only [sid, Option.some.injEq] at e
      omega
    have i2 : sid (.one c2) ≠ some (n + 1) := fun e => by
      obtain ⟨id', cap, e', q1, q2, q3, q4⟩ := k2
      rw [e'] at e
      simp only [sid, Option.some.injEq] at e
      omega
    have i4 : ∀ id, sid (.one c1) = some id → n + 2 ≤ id ∧ id < n1 := fun id e => by
      obtain ⟨id', cap, e', q1, q2, q3, q4⟩ := hO1
      rw [e'] at e
      simp only [sid, Option.some.injEq] at e
      omega
    have i5 : ∀ id, sid (.one c2) = some id → n1 ≤ id ∧ id < n2 := fun id e => by
      obtain ⟨id', cap, e', q1, q2, q3, q4⟩ := k2
      rw [e'] at e
      simp only [sid, Option.some.injEq] at e
      omega
    have l1 : lf.length < 4294967296 := by omega
    have l2 : lp.length < 4294967296 := by omega
    have l3 : ld.length < 4294967296 := by omega
    have rS := hS M n2 (Nat.le_refl _) (fun _ _ => rfl)
    have rT := hT M n2 c1 c2 lf ld (Nat.le_refl _) (fun _ _ => rfl) (k1.rl cs5) (k2.rl ci1) (Sty.mk (Pai.mk s.fill.k s.fill.c0 s.fill.c1 s.fill.c2 s.fill.c3 s.fill.fx s.fill.fy s.fill.tx s.fill.ty c1) (Pai.mk s.pen.k s.pen.c0 s.pen.c1 s.pen.c2 s.pen.c3 s.pen.fx s.pen.fy s.pen.tx s.pen.ty s.pen.st) s.rule s.half s.cap c2 s.ph s.op s.mode) rfl rfl rfl
    have vE1 : callF TA 21 [.agg [I s.fill.k, U8 s.fill.c0, U8 s.fill.c1, U8 s.fill.c2, U8 s.fill.c3, I s.fill.fx, I s.fill.fy, I s.fill.tx, I s.fill.ty, s.fill.st, I s.pen.k, U8 s.pen.c0, U8 s.pen.c1, U8 s.pen.c2, U8 s.pen.c3, I s.pen.fx, I s.pen.fy, I s.pen.tx, I s.pen.ty, s.pen.st, I s.rule, I s.half, I s.cap, s.dl, I s.ph, I s.op, I s.mode], .agg [I s.fill.k, U8 s.fill.c0, U8 s.fill.c1, U8 s.fill.c2, U8 s.fill.c3, I s.fill.fx, I s.fill.fy, I s.fill.tx, I s.fill.ty, c1, I s.pen.k, U8 s.pen.c0, U8 s.pen.c1, U8 s.pen.c2, U8 s.pen.c3, I s.pen.fx, I s.pen.fy, I s.pen.tx, I s.pen.ty, s.pen.st, I s.rule, I s.half, I s.cap, c2, I s.ph, I s.op, I s.mode]] (frz M) n2 = some (RB true) := (v_SEqual s (Sty.mk (Pai.mk s.fill.k s.fill.c0 s.fill.c1 s.fill.c2 s.fill.c3 s.fill.fx s.fill.fy s.fill.tx s.fill.ty c1) (Pai.mk s.pen.k s.pen.c0 s.pen.c1 s.pen.c2 s.pen.c3 s.pen.fx s.pen.fy s.pen.tx s.pen.ty s.pen.st) s.rule s.half s.cap c2 s.ph s.op s.mode) lf lf lp lp ld ld (frz M) n2 rS.frz rT.frz l1 l2 l3).trans (by simp [styB, paiB])
    have vE2 : callF TA 21 [.agg [I s.fill.k, U8 s.fill.c0, U8 s.fill.c1, U8 s.fill.c2, U8 s.fill.c3, I s.fill.fx, I s.fill.fy, I s.fill.tx, I s.fill.ty, c1, I s.pen.k, U8 s.pen.c0, U8 s.pen.c1, U8 s.pen.c2, U8 s.pen.c3, I s.pen.fx, I s.pen.fy, I s.pen.tx, I s.pen.ty, s.pen.st, I s.rule, I s.half, I s.cap, c2, I s.ph, I s.op, I s.mode], .agg [I s.fill.k, U8 s.fill.c0, U8 s.fill.c1, U8 s.fill.c2, U8 s.fill.c3, I s.fill.fx, I s.fill.fy, I s.fill.tx, I s.fill.ty, s.fill.st, I s.pen.k, U8 s.pen.c0, U8 s.pen.c1, U8 s.pen.c2, U8 s.pen.c3, I s.pen.fx, I s.pen.fy, I s.pen.tx, I s.pen.ty, s.pen.st, I s.rule, I s.half, I s.cap, s.dl, I s.ph, I s.op, I s.mode]] (frz M) n2 = some (RB true) := (v_SEqual (Sty.mk (Pai.mk s.fill.k s.fill.c0 s.fill.c1 s.fill.c2 s.fill.c3 s.fill.fx s.fill.fy s.fill.tx s.fill.ty c1) (Pai.mk s.pen.k s.pen.c0 s.pen.c1 s.pen.c2 s.pen.c3 s.pen.fx s.pen.fy s.pen.tx s.pen.ty s.pen.st) s.rule s.half s.cap c2 s.ph s.op s.mode) s lf lf lp lp ld ld (frz M) n2 rT.frz rS.frz l1 l2 l3).trans (by simp [styB, paiB])
    have y0 := na_0 (show n < n2 by omega)
    have y1 := na_0 (show n + 1 < n2 by omega)
    by_cases j0 : k = 0
    · have w1 := hS (upd M (n + 1) (some ⟨[I s.fill.k, U8 s.fill.c0, U8 s.fill.c1, U8 s.fill.c2, U8 s.fill.c3, I s.fill.fx, I s.fill.fy, I s.fill.tx, I s.fill.ty, c1, I s.pen.k, U8 s.pen.c0, U8 s.pen.c1, U8 s.pen.c2, U8 s.pen.c3, I s.pen.fx, I s.pen.fy, I s.pen.tx, I s.pen.ty, s.pen.st, I (Go.bits .xor .i64 s.rule 1), I s.half, I s.cap, c2, I s.ph, I s.op, I s.mode], true⟩)) n2 (Nat.le_refl _) (fun id hid => upd_ne _ _ (by omega))
      have w2 := hT (upd M (n + 1) (some ⟨[I s.fill.k, U8 s.fill.c0, U8 s.fill.c1, U8 s.fill.c2, U8 s.fill.c3, I s.fill.fx, I s.fill.fy, I s.fill.tx, I s.fill.ty, c1, I s.pen.k, U8 s.pen.c0, U8 s.pen.c1, U8 s.pen.c2, U8 s.pen.c3, I s.pen.fx, I s.pen.fy, I s.pen.tx, I s.pen.ty, s.pen.st, I (Go.bits .xor .i64 s.rule 1), I s.half, I s.cap, c2, I s.ph, I s.op, I s.mode], true⟩)) n2 c1 c2 lf ld (Nat.le_refl _) (fun id hid => upd_ne _ _ (by omega)) ((k1.rl cs5).upd i1 _) ((k2.rl ci1).upd i2 _) (Sty.mk (Pai.mk s.fill.k s.fill.c0 s.fill.c1 s.fill.c2 s.fill.c3 s.fill.fx s.fill.fy s.fill.tx s.fill.ty c1) (Pai.mk s.pen.k s.pen.c0 s.pen.c1 s.pen.c2 s.pen.c3 s.pen.fx s.pen.fy s.pen.tx s.pen.ty s.pen.st) (Go.bits .xor .i64 s.rule 1) s.half s.cap c2 s.ph s.op s.mode) rfl rfl rfl
      have u1 := xor64_ne s.rule
      have u2 := Ne.symm u1
      have vF1 : callF TA 21 [.agg [I s.fill.k, U8 s.fill.c0, U8 s.fill.c1, U8 s.fill.c2, U8 s.fill.c3, I s.fill.fx, I s.fill.fy, I s.fill.tx, I s.fill.ty, s.fill.st, I s.pen.k, U8 s.pen.c0, U8 s.pen.c1, U8 s.pen.c2, U8 s.pen.c3, I s.pen.fx, I s.pen.fy, I s.pen.tx, I s.pen.ty, s.pen.st, I s.rule, I s.half, I s.cap, s.dl, I s.ph, I s.op, I s.mode], .agg [I s.fill.k, U8 s.fill.c0, U8 s.fill.c1, U8 s.fill.c2, U8 s.fill.c3, I s.fill.fx, I s.fill.fy, I s.fill.tx, I s.fill.ty, c1, I s.pen.k, U8 s.pen.c0, U8 s.pen.c1, U8 s.pen.c2, U8 s.pen.c3, I s.pen.fx, I s.pen.fy, I s.pen.tx, I s.pen.ty, s.pen.st, I (Go.bits .xor .i64 s.rule 1), I s.half, I s.cap, c2, I s.ph, I s.op, I s.mode]] (frz (upd M (n + 1) (some ⟨[I s.fill.k, U8 s.fill.c0, U8 s.fill.c1, U8 s.fill.c2, U8 s.fill.c3, I s.fill.fx, I s.fill.fy, I s.fill.tx, I s.fill.ty, c1, I s.pen.k, U8 s.pen.c0, U8 s.pen.c1, U8 s.pen.c2, U8 s.pen.c3, I s.pen.fx, I s.pen.fy, I s.pen.tx, I s.pen.ty, s.pen.st, I (Go.bits .xor .i64 s.rule 1), I s.half, I s.cap, c2, I s.ph, I s.op, I s.mode], true⟩))) n2 = some (RB false) := (v_SEqual s (Sty.mk (Pai.mk s.fill.k s.fill.c0 s.fill.c1 s.fill.c2 s.fill.c3 s.fill.fx s.fill.fy s.fill.tx s.fill.ty c1) (Pai.mk s.pen.k s.pen.c0 s.pen.c1 s.pen.c2 s.pen.c3 s.pen.fx s.pen.fy s.pen.tx s.pen.ty s.pen.st) (Go.bits .xor .i64 s.rule 1) s.half s.cap c2 s.ph s.op s.mode) lf lf lp lp ld ld _ n2 w1.frz w2.frz l1 l2 l3).trans (by simp [styB, paiB, u1, u2])
      have vF2 : callF TA 21 [.agg [I s.fill.k, U8 s.fill.c0, U8 s.fill.c1, U8 s.fill.c2, U8 s.fill.c3, I s.fill.fx, I s.fill.fy, I s.fill.tx, I s.fill.ty, c1, I s.pen.k, U8 s.pen.c0, U8 s.pen.c1, U8 s.pen.c2, U8 s.pen.c3, I s.pen.fx, I s.pen.fy, I s.pen.tx, I s.pen.ty, s.pen.st, I (Go.bits .xor .i64 s.rule 1), I s.half, I s.cap, c2, I s.ph, I s.op, I s.mode], .agg [I s.fill.k, U8 s.fill.c0, U8 s.fill.c1, U8 s.fill.c2, U8 s.fill.c3, I s.fill.fx, I s.fill.fy, I s.fill.tx, I s.fill.ty, s.fill.st, I s.pen.k, U8 s.pen.c0, U8 s.pen.c1, U8 s.pen.c2, U8 s.pen.c3, I s.pen.fx, I s.pen.fy, I s.pen.tx, I s.pen.ty, s.pen.st, I s.rule, I s.half, I s.cap, s.dl, I s.ph, I s.op, I s.mode]] (frz (upd M (n + 1) (some ⟨[I s.fill.k, U8 s.fill.c0, U8 s.fill.c1, U8 s.fill.c2, U8 s.fill.c3, I s.fill.fx, I s.fill.fy, I s.fill.tx, I s.fill.ty, c1, I s.pen.k, U8 s.pen.c0, U8 s.pen.c1, U8 s.pen.c2, U8 s.pen.c3, I s.pen.fx, I s.pen.fy, I s.pen.tx, I s.pen.ty, s.pen.st, I (Go.bits .xor .i64 s.rule 1), I s.half, I s.cap, c2, I s.ph, I s.op, I s.mode], true⟩))) n2 = some (RB false) := (v_SEqual (Sty.mk (Pai.mk s.fill.k s.fill.c0 s.fill.c1 s.fill.c2 s.fill.c3 s.fill.fx s.fill.fy s.fill.tx s.fill.ty c1) (Pai.mk s.pen.k s.pen.c0 s.pen.c1 s.pen.c2 s.pen.c3 s.pen.fx s.pen.fy s.pen.tx s.pen.ty s.pen.st) (Go.bits .xor .i64 s.rule 1) s.half s.cap c2 s.ph s.op s.mode) s lf lf lp lp ld ld _ n2 w2.frz w1.frz l1 l2 l3).trans (by simp [styB, paiB, u1, u2])
      try simp only [r5_0, r5_1, r5_2, r5_3, r5_4, r5_5, r5_6, r5_7, r5_8, r5_10, r5_11, r5_12, r5_13, r5_14, r5_15, r5_16, r5_17, r5_18, r5_19, r5_20, r5_21, r5_22, r5_23, r5_24, r5_25, r5_26, r5_27, r5_28, r5_29, r5_9, r5_30, c5, F5, gb0, rd_of gb0, gb1, rd_of gb1, vE1, vE2, j0, y0, y1, vF1, vF2, v_awake16, go_sem, Int.reduceTMod, Int.reduceTDiv, Int.reduceDiv, Int.reduceMod, Int.reduceAdd, Int.reduceSub, Int.reduceMul, Int.reduceNeg, Int.reducePow, Int.reduceEq, ↓reduceIte, Nat.reduceEqDiff, Nat.reduceAdd, Nat.reduceMul, Nat.reduceLeDiff, Nat.reduceSub, Nat.reduceLT, Int.reduceToNat, Int.reduceLT, Int.reduceLE, reduceCtorEq]
      repeat' ((first | refine FK_split (fun h_ => ?_) (fun h_ => ?_) | refine GK_split (fun h_ => ?_) (fun h_ => ?_) | refine ite_both (fun h_ => ?_) (fun h_ => ?_)) <;> (try simp only [decide_eq_true_eq, decide_eq_false_iff_not, Bool.not_true, Bool.not_false, Bool.not_eq_true', Bool.not_eq_false', Bool.not_eq_eq_eq_not, Decidable.not_not] at h_) <;> (try simp only [r5_0, r5_1, r5_2, r5_3, r5_4, r5_5, r5_6, r5_7, r5_8, r5_10, r5_11, r5_12, r5_13, r5_14, r5_15, r5_16, r5_17, r5_18, r5_19, r5_20, r5_21, r5_22, r5_23, r5_24, r5_25, r5_26, r5_27, r5_28, r5_29, r5_9, r5_30, c5, F5, gb0, rd_of gb0, gb1, rd_of gb1, vE1, vE2, j0, y0, y1, vF1, vF2, v_awake16, h_, go_sem, Int.reduceTMod, Int.reduceTDiv, Int.reduceDiv, Int.reduceMod, Int.reduceAdd, Int.reduceSub, Int.reduceMul, Int.reduceNeg, Int.reducePow, Int.reduceEq, ↓reduceIte, Nat.reduceEqDiff, Nat.reduceAdd, Nat.reduceMul, Nat.reduceLeDiff, Nat.reduceSub, Nat.reduceLT, Int.reduceToNat, Int.reduceLT, Int.reduceLE, reduceCtorEq]))
    by_cases j1 : k = 1
    · have w1 := hS (upd M (n + 1) (some ⟨[I s.fill.k, U8 s.fill.c0, U8 s.fill.c1, U8 s.fill.c2, U8 s.fill.c3, I s.fill.fx, I s.fill.fy, I s.fill.tx, I s.fill.ty, c1, I s.pen.k, U8 s.pen.c0, U8 s.pen.c1, U8 s.pen.c2, U8 s.pen.c3, I s.pen.fx, I s.pen.fy, I s.pen.tx, I s.pen.ty, s.pen.st, I s.rule, I (Go.bits .xor .i64 s.half 1), I s.cap, c2, I s.ph, I s.op, I s.mode], true⟩)) n2 (Nat.le_refl _) (fun id hid => upd_ne _ _ (by omega))
      have w2 := hT (upd M (n + 1) (some ⟨[I s.fill.k, U8 s.fill.c0, U8 s.fill.c1, U8 s.fill.c2, U8 s.fill.c3, I s.fill.fx, I s.fill.fy, I s.fill.tx, I s.fill.ty, c1, I s.pen.k, U8 s.pen.c0, U8 s.pen.c1, U8 s.pen.c2, U8 s.pen.c3, I s.pen.fx, I s.pen.fy, I s.pen.tx, I s.pen.ty, s.pen.st, I s.rule, I (Go.bits .xor .i64 s.half 1), I s.cap, c2, I s.ph, I s.op, I s.mode], true⟩)) n2 c1 c2 lf ld (Nat.le_refl _) (fun id hid => upd_ne _ _ (by omega)) ((k1.rl cs5).upd i1 _) ((k2.rl ci1).upd i2 _) (Sty.mk (Pai.mk s.fill.k s.fill.c0 s.fill.c1 s.fill.c2 s.fill.c3 s.fill.fx s.fill.fy s.fill.tx s.fill.ty c1) (Pai.mk s.pen.k s.pen.c0 s.pen.c1 s.pen.c2 s.pen.c3 s.pen.fx s.pen.fy s.pen.tx s.pen.ty s.pen.st) s.rule (Go.bits .xor .i64 s.half 1) s.cap c2 s.ph s.op s.mode) rfl rfl rfl
      have u1 := xor64_ne s.half
      have u2 := Ne.symm u1
      have vF1 : callF TA 21 [.agg [I s.fill.k, U8 s.fill.c0, U8 s.fill.c1, U8 s.fill.c2, U8 s.fill.c3, I s.fill.fx, I s.fill.fy, I s.fill.tx, I s.fill.ty, s.fill.st, I s.pen.k, U8 s.pen.c0, U8 s.pen.c1, U8 s.pen.c2, U8 s.pen.c3, I s.pen.fx, I s.pen.fy, I s.pen.tx, I s.pen.ty, s.pen.st, I s.rule, I s.half, I s.cap, s.dl, I s.ph, I s.op, I s.mode], .agg [I s.fill.k, U8 s.fill.c0, U8 s.fill.c1, U8 s.fill.c2, U8 s.fill.c3, I s.fill.fx, I s.fill.fy, I s.fill.tx, I s.fill.ty, c1, I s.pen.k, U8 s.pen.c0, U8 s.pen.c1, U8 s.pen.c2, U8 s.pen.c3, I s.pen.fx, I s.pen.fy, I s.pen.tx, I s.pen.ty, s.pen.st, I s.rule, I (Go.bits .xor .i64 s.half 1), I s.cap, c2, I s.ph, I s.op, I s.mode]] (frz (upd M (n + 1) (some ⟨[I s.fill.k, U8 s.fill.c0, U8 s.fill.c1, U8 s.fill.c2, U8 s.fill.c3, I s.fill.fx, I s.fill.fy, I s.fill.tx, I s.fill.ty, c1, I s.pen.k, U8 s.pen.c0, U8 s.pen.c1, U8 s.pen.c2, U8 s.pen.c3, I s.pen.fx, I s.pen.fy, I s.pen.tx, I s.pen.ty, s.pen.st, I s.rule, I (Go.bits .xor .i64 s.half 1), I s.cap, c2, I s.ph, I s.op, I s.mode], true⟩))) n2 = some (RB false) := (v_SEqual s (Sty.mk (Pai.mk s.fill.k s.fill.c0 s.fill.c1 s.fill.c2 s.fill.c3 s.fill.fx s.fill.fy s.fill.tx s.fill.ty c1) (Pai.mk s.pen.k s.pen.c0 s.pen.c1 s.pen.c2 s.pen.c3 s.pen.fx s.pen.fy s.pen.tx s.pen.ty s.pen.st) s.rule (Go.bits .xor .i64 s.half 1) s.cap c2 s.ph s.op s.mode) lf lf lp lp ld ld _ n2 w1.frz w2.frz l1 l2 l3).trans (by simp [styB, paiB, u1, u2])
      have vF2 : callF TA 21 [.agg [I s.fill.k, U8 s.fill.c0, U8 s.fill.c1, U8 s.fill.c2, U8 s.fill.c3, I s.fill.fx, I s.fill.fy, I s.fill.tx, I s.fill.ty, c1, I s.pen.k, U8 s.pen.c0, U8 s.pen.c1, U8 s.pen.c2, U8 s.pen.c3, I s.pen.fx, I s.pen.fy, I s.pen.tx, I s.pen.ty, s.pen.st, I s.rule, I (Go.bits .xor .i64 s.half 1), I s.cap, c2, I s.ph, I s.op, I s.mode], .agg [I s.fill.k, U8 s.fill.c0, U8 s.fill.c1, U8 s.fill.c2, U8 s.fill.c3, I s.fill.fx, I s.fill.fy, I s.fill.tx, I s.fill.ty, s.fill.st, I s.pen.k, U8 s.pen.c0, U8 s.pen.c1, U8 s.pen.c2, U8 s.pen.c3, I s.pen.fx, I s.pen.fy, I s.pen.tx, I s.pen.ty, s.pen.st, I s.rule, I s.half, I s.cap, s.dl, I s.ph, I s.op, I s.mode]] (frz (upd M (n + 1) (some ⟨[I s.fill.k, U8 s.fill.c0, U8 s.fill.c1, U8 s.fill.c2, U8 s.fill.c3, I s.fill.fx, I s.fill.fy, I s.fill.tx, I s.fill.ty, c1, I s.pen.k, U8 s.pen.c0, U8 s.pen.c1, U8 s.pen.c2, U8 s.pen.c3, I s.pen.fx, I s.pen.fy, I s.pen.tx, I s.pen.ty, s.pen.st, I s.rule, I (Go.bits .xor .i64 s.half 1), I s.cap, c2, I s.ph, I s.op, I s.mode], true⟩))) n2 = some (RB false) := (v_SEqual (Sty.mk (Pai.mk s.fill.k s.fill.c0 s.fill.c1 s.fill.c2 s.fill.c3 s.fill.fx s.fill.fy s.fill.tx s.fill.ty c1) (Pai.mk s.pen.k s.pen.c0 s.pen.c1 s.pen.c2 s.pen.c3 s.pen.fx s.pen.fy s.pen.tx s.pen.ty s.pen.st) s.rule (Go.bits .xor .i64 s.half 1) s.cap c2 s.ph s.op s.mode) s lf lf lp lp ld ld _ n2 w2.frz w1.frz l1 l2 l3).trans (by simp [styB, paiB, u1, u2])
      try simp only [r5_0, r5_1, r5_2, r5_3, r5_4, r5_5, r5_6, r5_7, r5_8, r5_10, r5_11, r5_12, r5_13, r5_14, r5_15, r5_16, r5_17, r5_18, r5_19, r5_20, r5_21, r5_22, r5_23, r5_24, r5_25, r5_26, r5_27, r5_28, r5_29, r5_9, r5_30, c5, F5, gb0, rd_of gb0, gb1, rd_of gb1, vE1, vE2, j0, j1, y0, y1, vF1, vF2, v_awake16, go_sem, Int.reduceTMod, Int.reduceTDiv, Int.reduceDiv, Int.reduceMod, Int.reduceAdd, Int.reduceSub, Int.reduceMul, Int.reduceNeg, Int.reducePow, Int.reduceEq, ↓reduceIte, Nat.reduceEqDiff, Nat.reduceAdd, Nat.reduceMul, Nat.reduceLeDiff, Nat.reduceSub, Nat.reduceLT, Int.reduceToNat, Int.reduceLT, Int.reduceLE, reduceCtorEq]
      repeat' ((first | refine FK_split (fun h_ => ?_) (fun h_ => ?_) | refine GK_split (fun h_ => ?_) (fun h_ => ?_) | refine ite_both (fun h_ => ?_) (fun h_ => ?_)) <;> (try simp only [decide_eq_true_eq, decide_eq_false_iff_not, Bool.not_true, Bool.not_false, Bool.not_eq_true', Bool.not_eq_false', Bool.not_eq_eq_eq_not, Decidable.not_not] at h_) <;> (try simp only [r5_0, r5_1, r5_2, r5_3, r5_4, r5_5, r5_6, r5_7, r5_8, r5_10, r5_11, r5_12, r5_13, r5_14, r5_15, r5_16, r5_17, r5_18, r5_19, r5_20, r5_21, r5_22, r5_23, r5_24, r5_25, r5_26, r5_27, r5_28, r5_29, r5_9, r5_30, c5, F5, gb0, rd_of gb0, gb1, rd_of gb1, vE1, vE2, j0, j1, y0, y1, vF1, vF2, v_awake16, h_, go_sem, Int.reduceTMod, Int.reduceTDiv, Int.reduceDiv, Int.reduceMod, Int.reduceAdd, Int.reduceSub, Int.reduceMul, Int.reduceNeg, Int.reducePow, Int.reduceEq, ↓reduceIte, Nat.reduceEqDiff, Nat.reduceAdd, Nat.reduceMul, Nat.reduceLeDiff, Nat.reduceSub, Nat.reduceLT, Int.reduceToNat, Int.reduceLT, Int.reduceLE, reduceCtorEq]))
    by_cases j2 : k = 2
    · have w1 := hS (upd M (n + 1) (some ⟨[I s.fill.k, U8 s.fill.c0, U8 s.fill.c1, U8 s.fill.c2, U8 s.fill.c3, I s.fill.fx, I s.fill.fy, I s.fill.tx, I s.fill.ty, c1, I s.pen.k, U8 s.pen.c0, U8 s.pen.c1, U8 s.pen.c2, U8 s.pen.c3, I s.pen.fx, I s.pen.fy, I s.pen.tx, I s.pen.ty, s.pen.st, I s.rule, I s.half, I (Go.bits .xor .i64 s.cap 1), c2, I s.ph, I s.op, I s.mode], true⟩)) n2 (Nat.le_refl _) (fun id hid => upd_ne _ _ (by omega))
      have w2 := hT (upd M (n + 1) (some ⟨[I s.fill.k, U8 s.fill.c0, U8 s.fill.c1, U8 s.fill.c2, U8 s.fill.c3, I s.fill.fx, I s.fill.fy, I s.fill.tx, I s.fill.ty, c1, I s.pen.k, U8 s.pen.c0, U8 s.pen.c1, U8 s.pen.c2, U8 s.pen.c3, I s.pen.fx, I s.pen.fy, I s.pen.tx, I s.pen.ty, s.pen.st, I s.rule, I s.half, I (Go.bits .xor .i64 s.cap 1), c2, I s.ph, I s.op, I s.mode], true⟩)) n2 c1 c2 lf ld (Nat.le_refl _) (fun id hid => upd_ne _ _ (by omega)) ((k1.rl cs5).upd i1 _) ((k2.rl ci1).upd i2 _) (Sty.mk (Pai.mk s.fill.k s.fill.c0 s.fill.c1 s.fill.c2 s.fill.c3 s.fill.fx s.fill.fy s.fill.tx s.fill.ty c1) (Pai.mk s.pen.k s.pen.c0 s.pen.c1 s.pen.c2 s.pen.c3 s.pen.fx s.pen.fy s.pen.tx s.pen.ty s.pen.st) s.rule s.half (Go.bits .xor .i64 s.cap 1) c2 s.ph s.op s.mode) rfl rfl rfl
      have u1 := xor64_ne s.cap
      have u2 := Ne.symm u1
      have vF1 : callF TA 21 [.agg [I s.fill.k, U8 s.fill.c0, U8 s.fill.c1, U8 s.fill.c2, U8 s.fill.c3, I s.fill.fx, I s.fill.fy, I s.fill.tx, I s.fill.ty, s.fill.st, I s.pen.k, U8 s.pen.c0, U8 s.pen.c1, U8 s.pen.c2, U8 s.pen.c3, I s.pen.fx, I s.pen.fy, I s.pen.tx, I s.pen.ty, s.pen.st, I s.rule, I s.half, I s.cap, s.dl, I s.ph, I s.op, I s.mode], .agg [I s.fill.k, U8 s.fill.c0, U8 s.fill.c1, U8 s.fill.c2, U8 s.fill.c3, I s.fill.fx, I s.fill.fy, I s.fill.tx, I s.fill.ty, c1, I s.pen.k, U8 s.pen.c0, U8 s.pen.c1, U8 s.pen.c2, U8 s.pen.c3, I s.pen.fx, I s.pen.fy, I s.pen.tx, I s.pen.ty, s.pen.st, I s.rule, I s.half, I (Go.bits .xor .i64 s.cap 1), c2, I s.ph, I s.op, I s.mode]] (frz (upd M (n + 1) (some ⟨[I s.fill.k, U8 s.fill.c0, U8 s.fill.c1, U8 s.fill.c2, U8 s.fill.c3, I s.fill.fx, I s.fill.fy, I s.fill.tx, I s.fill.ty, c1, I s.pen.k, U8 s.pen.c0, U8 s.pen.c1, U8 s.pen.c2, U8 s.pen.c3, I s.pen.fx, I s.pen.fy, I s.pen.tx, I s.pen.ty, s.pen.st, I s.rule, I s.half, I (Go.bits .xor .i64 s.cap 1), c2, I s.ph, I s.op, I s.mode], true⟩))) n2 = some (RB false) := (v_SEqual s (Sty.mk (Pai.mk s.fill.k s.fill.c0 s.fill.c1 s.fill.c2 s.fill.c3 s.fill.fx s.fill.fy s.fill.tx s.fill.ty c1) (Pai.mk s.pen.k s.pen.c0 s.pen.c1 s.pen.c2 s.pen.c3 s.pen.fx s.pen.fy s.pen.tx s.pen.ty s.pen.st) s.rule s.half (Go.bits .xor .i64 s.cap 1) c2 s.ph s.op s.mode) lf lf lp lp ld ld _ n2 w1.frz w2.frz l1 l2 l3).trans (by simp [styB, paiB, u1, u2])
      have vF2 : callF TA 21 [.agg [I s.fill.k, U8 s.fill.c0, U8 s.fill.c1, U8 s.fill.c2, U8 s.fill.c3, I s.fill.fx, I s.fill.fy, I s.fill.tx, I s.fill.ty, c1, I s.pen.k, U8 s.pen.c0, U8 s.pen.c1, U8 s.pen.c2, U8 s.pen.c3, I s.pen.fx, I s.pen.fy, I s.pen.tx, I s.pen.ty, s.pen.st, I s.rule, I s.half, I (Go.bits .xor .i64 s.cap 1), c2, I s.ph, I s.op, I s.mode], .agg [I s.fill.k, U8 s.fill.c0, U8 s.fill.c1, U8 s.fill.c2, U8 s.fill.c3, I s.fill.fx, I s.fill.fy, I s.fill.tx, I s.fill.ty, s.fill.st, I s.pen.k, U8 s.pen.c0, U8 s.pen.c1, U8 s.pen.c2, U8 s.pen.c3, I s.pen.fx, I s.pen.fy, I s.pen.tx, I s.pen.ty, s.pen.st, I s.rule, I s.half, I s.cap, s.dl, I s.ph, I s.op, I s.mode]] (frz (upd M (n + 1) (some ⟨[I s.fill.k, U8 s.fill.c0, U8 s.fill.c1, U8 s.fill.c2, U8 s.fill.c3, I s.fill.fx, I s.fill.fy, I s.fill.tx, I s.fill.ty, c1, I s.pen.k, U8 s.pen.c0, U8 s.pen.c1, U8 s.pen.c2, U8 s.pen.c3, I s.pen.fx, I s.pen.fy, I s.pen.tx, I s.pen.ty, s.pen.st, I s.rule, I s.half, I (Go.bits .xor .i64 s.cap 1), c2, I s.ph, I s.op, I s.mode], true⟩))) n2 = some (RB false) := (v_SEqual (Sty.mk (Pai.mk s.fill.k s.fill.c0 s.fill.c1 s.fill.c2 s.fill.c3 s.fill.fx s.fill.fy s.fill.tx s.fill.ty c1) (Pai.mk s.pen.k s.pen.c0 s.pen.c1 s.pen.c2 s.pen.c3 s.pen.fx s.pen.fy s.pen.tx s.pen.ty s.pen.st) s.rule s.half (Go.bits .xor .i64 s.cap 1) c2 s.ph s.op s.mode) s lf lf lp lp ld ld _ n2 w2.frz w1.frz l1 l2 l3).trans (by simp [styB, paiB, u1, u2])
      try simp only [r5_0, r5_1, r5_2, r5_3, r5_4, r5_5, r5_6, r5_7, r5_8, r5_10, r5_11, r5_12, r5_13, r5_14, r5_15, r5_16, r5_17, r5_18, r5_19, r5_20, r5_21, r5_22, r5_23, r5_24, r5_25, r5_26, r5_27, r5_28, r5_29, r5_9, r5_30, c5, F5, gb0, rd_of gb0, gb1, rd_of gb1, vE1, vE2, j0, j1, j2, y0, y1, vF1, vF2, v_awake16, go_sem, Int.reduceTMod, Int.reduceTDiv, Int.reduceDiv, Int.reduceMod, Int.reduceAdd, Int.reduceSub, Int.reduceMul, Int.reduceNeg, Int.reducePow, Int.reduceEq, ↓reduceIte, Nat.reduceEqDiff, Nat.reduceAdd, Nat.reduceMul, Nat.reduceLeDiff, Nat.reduceSub, Nat.reduceLT, Int.reduceToNat, Int.reduceLT, Int.reduceLE, reduceCtorEq]
      repeat' ((first | refine FK_split (fun h_ => ?_) (fun h_ => ?_) | refine GK_split (fun h_ => ?_) (fun h_ => ?_) | refine ite_both (fun h_ => ?_) (fun h_ => ?_)) <;> (try simp only [decide_eq_true_eq, decide_eq_false_iff_not, Bool.not_true, Bool.not_false, Bool.not_eq_true', Bool.not_eq_false', Bool.not_eq_eq_eq_not, Decidable.not_not] at h_) <;> (try simp only [r5_0, r5_1, r5_2, r5_3, r5_4, r5_5, r5_6, r5_7, r5_8, r5_10, r5_11, r5_12, r5_13, r5_14, r5_15, r5_16, r5_17, r5_18, r5_19, r5_20, r5_21, r5_22, r5_23, r5_24, r5_25, r5_26, r5_27, r5_28, r5_29, r5_9, r5_30, c5, F5, gb0, rd_of gb0, gb1, rd_of gb1, vE1, vE2, j0, j1, j2, y0, y1, vF1, vF2, v_awake16, h_, go_sem, Int.reduceTMod, Int.reduceTDiv, Int.reduceDiv, Int.reduceMod, Int.reduceAdd, Int.reduceSub, Int.reduceMul, Int.reduceNeg, Int.reducePow, Int.reduceEq, ↓reduceIte, Nat.reduceEqDiff, Nat.reduceAdd, Nat.reduceMul, Nat.reduceLeDiff, Nat.reduceSub, Nat.reduceLT, Int.reduceToNat, Int.reduceLT, Int.reduceLE, reduceCtorEq]))
    by_cases j3 : k = 3
    · have w1 := hS (upd M (n + 1) (some ⟨[I s.fill.k, U8 s.fill.c0, U8 s.fill.c1, U8 s.fill.c2, U8 s.fill.c3, I s.fill.fx, I s.fill.fy, I s.fill.tx, I s.fill.ty, c1, I s.pen.k, U8 s.pen.c0, U8 s.pen.c1, U8 s.pen.c2, U8 s.pen.c3, I s.pen.fx, I s.pen.fy, I s.pen.tx, I s.pen.ty, s.pen.st, I s.rule, I s.half, I s.cap, c2, I s.ph, I (Go.bits .xor .i64 s.op 1), I s.mode], true⟩)) n2 (Nat.le_refl _) (fun id hid => upd_ne _ _ (by omega))
      have w2 := hT (upd M (n + 1) (some ⟨[I s.fill.k, U8 s.fill.c0, U8 s.fill.c1, U8 s.fill.c2, U8 s.fill.c3, I s.fill.fx, I s.fill.fy, I s.fill.tx, I s.fill.ty, c1, I s.pen.k, U8 s.pen.c0, U8 s.pen.c1, U8 s.pen.c2, U8 s.pen.c3, I s.pen.fx, I s.pen.fy, I s.pen.tx, I s.pen.ty, s.pen.st, I s.rule, I s.half, I s.cap, c2, I s.ph, I (Go.bits .xor .i64 s.op 1), I s.mode], true⟩)) n2 c1 c2 lf ld (Nat.le_refl _) (fun id hid => upd_ne _ _ (by omega)) ((k1.rl cs5).upd i1 _) ((k2.rl ci1).upd i2 _) (Sty.mk (Pai.mk s.fill.k s.fill.c0 s.fill.c1 s.fill.c2 s.fill.c3 s.fill.fx s.fill.fy s.fill.tx s.fill.ty c1) (Pai.mk s.pen.k s.pen.c0 s.pen.c1 s.pen.c2 s.pen.c3 s.pen.fx s.pen.fy s.pen.tx s.pen.ty s.pen.st) s.rule s.half s.cap c2 s.ph (Go.bits .xor .i64 s.op 1) s.mode) rfl rfl rfl
      have u1 := xor64_ne s.op
      have u2 := Ne.symm u1
      have vF1 : callF TA 21 [.agg [I s.fill.k, U8 s.fill.c0, U8 s.fill.c1, U8 s.fill.c2, U8 s.fill.c3, I s.fill.fx, I s.fill.fy, I s.fill.tx, I s.fill.ty, s.fill.st, I s.pen.k, U8 s.pen.c0, U8 s.pen.c1, U8 s.pen.c2, U8 s.pen.c3, I s.pen.fx, I s.pen.fy, I s.pen.tx, I s.pen.ty, s.pen.st, I s.rule, I s.half, I s.cap, s.dl, I s.ph, I s.op, I s.mode], .agg [I s.fill.k, U8 s.fill.c0, U8 s.fill.c1, U8 s.fill.c2, U8 s.fill.c3, I s.fill.fx, I s.fill.fy, I s.fill.tx, I s.fill.ty, c1, I s.pen.k, U8 s.pen.c0, U8 s.pen.c1, U8 s.pen.c2, U8 s.pen.c3, I s.pen.fx, I s.pen.fy, I s.pen.tx, I s.pen.ty, s.pen.st, I s.rule, I s.half, I s.cap, c2, I s.ph, I (Go.bits .xor .i64 s.op 1), I s.mode]] (frz (upd M (n + 1) (some ⟨[I s.fill.k, U8 s.fill.c0, U8 s.fill.c1, U8 s.fill.c2, U8 s.fill.c3, I s.fill.fx, I s.fill.fy, I s.fill.tx, I s.fill.ty, c1, I s.pen.k, U8 s.pen.c0, U8 s.pen.c1, U8 s.pen.c2, U8 s.pen.c3, I s.pen.fx, I s.pen.fy, I s.pen.tx, I s.pen.ty, s.pen.st, I s.rule, I s.half, I s.cap, c2, I s.ph, I (Go.bits .xor .i64 s.op 1), I s.mode], true⟩))) n2 = some (RB false) := (v_SEqual s (Sty.mk (Pai.mk s.fill.k s.fill.c0 s.fill.c1 s.fill.c2 s.fill.c3 s.fill.fx s.fill.fy s.fill.tx s.fill.ty c1) (Pai.mk s.pen.k s.pen.c0 s.pen.c1 s.pen.c2 s.pen.c3 s.pen.fx s.pen.fy s.pen.tx s.pen.ty s.pen.st) s.rule s.half s.cap c2 s.ph (Go.bits .xor .i64 s.op 1) s.mode) lf lf lp lp ld ld _ n2 w1.frz w2.frz l1 l2 l3).trans (by simp [styB, paiB, u1, u2])
      have vF2 : callF TA 21 [.agg [I s.fill.k, U8 s.fill.c0, U8 s.fill.c1, U8 s.fill.c2, U8 s.fill.c3, I s.fill.fx, I s.fill.fy, I s.fill.tx, I s.fill.ty, c1, I s.pen.k, U8 s.pen.c0, U8 s.pen.c1, U8 s.pen.c2, U8 s.pen.c3, I s.pen.fx, I s.pen.fy, I s.pen.tx, I s.pen.ty, s.pen.st, I s.rule, I s.half, I s.cap, c2, I s.ph, I (Go.bits .xor .i64 s.op 1), I s.mode], .agg [I s.fill.k, U8 s.fill.c0, U8 s.fill.c1, U8 s.fill.c2, U8 s.fill.c3, I s.fill.fx, I s.fill.fy, I s.fill.tx, I s.fill.ty, s.fill.st, I s.pen.k, U8 s.pen.c0, U8 s.pen.c1, U8 s.pen.c2, U8 s.pen.c3, I s.pen.fx, I s.pen.fy, I s.pen.tx, I s.pen.ty, s.pen.st, I s.rule, I s.half, I s.cap, s.dl, I s.ph, I s.op, I s.mode]] (frz (upd M (n + 1) (some ⟨[I s.fill.k, U8 s.fill.c0, U8 s.fill.c1, U8 s.fill.c2, U8 s.fill.c3, I s.fill.fx, I s.fill.fy, I s.fill.tx, I s.fill.ty, c1, I s.pen.k, U8 s.pen.c0, U8 s.pen.c1, U8 s.pen.c2, U8 s.pen.c3, I s.pen.fx, I s.pen.fy, I s.pen.tx, I s.pen.ty, s.pen.st, I s.rule, I s.half, I s.cap, c2, I s.ph, I (Go.bits .xor .i64 s.op 1), I s.mode], true⟩))) n2 = some (RB false) := (v_SEqual (Sty.mk (Pai.mk s.fill.k s.fill.c0 s.fill.c1 s.fill.c2 s.fill.c3 s.fill.fx s.fill.fy s.fill.tx s.fill.ty c1) (Pai.mk s.pen.k s.pen.c0 s.pen.c1 s.pen.c2 s.pen.c3 s.pen.fx s.pen.fy s.pen.tx s.pen.ty s.pen.st) s.rule s.half s.cap c2 s.ph (Go.bits .xor .i64 s.op 1) s.mode) s lf lf lp lp ld ld _ n2 w2.frz w1.frz l1 l2 l3).trans (by simp [styB, paiB, u1, u2])
      try simp only [r5_0, r5_1, r5_2, r5_3, r5_4, r5_5, r5_6, r5_7, r5_8, r5_10, r5_11, r5_12, r5_13, r5_14, r5_15, r5_16, r5_17, r5_18, r5_19, r5_20, r5_21, r5_22, r5_23, r5_24, r5_25, r5_26, r5_27, r5_28, r5_29, r5_9, r5_30, c5, F5, gb0, rd_of gb0, gb1, rd_of gb1, vE1, vE2, j0, j1, j2, j3, y0, y1, vF1, vF2, v_awake16, go_sem, Int.reduceTMod, Int.reduceTDiv, Int.reduceDiv, Int.reduceMod, Int.reduceAdd, Int.reduceSub, Int.reduceMul, Int.reduceNeg, Int.reducePow, Int.reduceEq, ↓reduceIte, Nat.reduceEqDiff, Nat.reduceAdd, Nat.reduceMul, Nat.reduceLeDiff, Nat.reduceSub, Nat.reduceLT, Int.reduceToNat, Int.reduceLT, Int.reduceLE, reduceCtorEq]
      repeat' ((first | refine FK_split (fun h_ => ?_) (fun h_ => ?_) | refine GK_split (fun h_ => ?_) (fun h_ => ?_) | refine ite_both (fun h_ => ?_) (fun h_ => ?_)) <;> (try simp only [decide_eq_true_eq, decide_eq_false_iff_not, Bool.not_true, Bool.not_false, Bool.not_eq_true', Bool.not_eq_false', Bool.not_eq_eq_eq_not, Decidable.not_not] at h_) <;> (try simp only [r5_0, r5_1, r5_2, r5_3, r5_4, r5_5, r5_6, r5_7, r5_8, r5_10, r5_11, r5_12, r5_13, r5_14, r5_15, r5_16, r5_17, r5_18, r5_19, r5_20, r5_21, r5_22, r5_23, r5_24, r5_25, r5_26, r5_27, r5_28, r5_29, r5_9, r5_30, c5, F5, gb0, rd_of gb0, gb1, rd_of gb1, vE1, vE2, j0, j1, j2, j3, y0, y1, vF1, vF2, v_awake16, h_, go_sem, Int.reduceTMod, Int.reduceTDiv, Int.reduceDiv, Int.reduceMod, Int.reduceAdd, Int.reduceSub, Int.reduceMul, Int.reduceNeg, Int.reducePow, Int.reduceEq, ↓reduceIte, Nat.reduceEqDiff, Nat.reduceAdd, Nat.reduceMul, Nat.reduceLeDiff, Nat.reduceSub, Nat.reduceLT, Int.reduceToNat, Int.reduceLT, Int.reduceLE, reduceCtorEq]))
    by_cases j4 : k = 4
    · have w1 := hS (upd M (n + 1) (some ⟨[I s.fill.k, U8 s.fill.c0, U8 s.fill.c1, U8 s.fill.c2, U8 s.fill.c3, I s.fill.fx, I s.fill.fy, I s.fill.tx, I s.fill.ty, c1, I s.pen.k, U8 s.pen.c0, U8 s.pen.c1, U8 s.pen.c2, U8 s.pen.c3, I s.pen.fx, I s.pen.fy, I s.pen.tx, I s.pen.ty, s.pen.st, I s.rule, I s.half, I s.cap, c2, I s.ph, I s.op, I (Go.bits .xor .i64 s.mode 1)], true⟩)) n2 (Nat.le_refl _) (fun id hid => upd_ne _ _ (by omega))
      have w2 := hT (upd M (n + 1) (some ⟨[I s.fill.k, U8 s.fill.c0, U8 s.fill.c1, U8 s.fill.c2, U8 s.fill.c3, I s.fill.fx, I s.fill.fy, I s.fill.tx, I s.fill.ty, c1, I s.pen.k, U8 s.pen.c0, U8 s.pen.c1, U8 s.pen.c2, U8 s.pen.c3, I s.pen.fx, I s.pen.fy, I s.pen.tx, I s.pen.ty, s.pen.st, I s.rule, I s.half, I s.cap, c2, I s.ph, I s.op, I (Go.bits .xor .i64 s.mode 1)], true⟩)) n2 c1 c2 lf ld (Nat.le_refl _) (fun id hid => upd_ne _ _ (by omega)) ((k1.rl cs5).upd i1 _) ((k2.rl ci1).upd i2 _) (Sty.mk (Pai.mk s.fill.k s.fill.c0 s.fill.c1 s.fill.c2 s.fill.c3 s.fill.fx s.fill.fy s.fill.tx s.fill.ty c1) (Pai.mk s.pen.k s.pen.c0 s.pen.c1 s.pen.c2 s.pen.c3 s.pen.fx s.pen.fy s.pen.tx s.pen.ty s.pen.st) s.rule s.half s.cap c2 s.ph s.op (Go.bits .xor .i64 s.mode 1)) rfl rfl rfl
      have u1 := xor64_ne s.mode
      have u2 := Ne.symm u1
      have vF1 : callF TA 21 [.agg [I s.fill.k, U8 s.fill.c0, U8 s.fill.c1, U8 s.fill.c2, U8 s.fill.c3, I s.fill.fx, I s.fill.fy, I s.fill.tx, I s.fill.ty, s.fill.st, I s.pen.k, U8 s.pen.c0, U8 s.pen.c1, U8 s.pen.c2, U8 s.pen.c3, I s.pen.fx, I s.pen.fy, I s.pen.tx, I s.pen.ty, s.pen.st, I s.rule, I s.half, I s.cap, s.dl, I s.ph, I s.op, I s.mode], .agg [I s.fill.k, U8 s.fill.c0, U8 s.fill.c1, U8 s.fill.c2, U8 s.fill.c3, I s.fill.fx, I s.fill.fy, I s.fill.tx, I s.fill.ty, c1, I s.pen.k, U8 s.pen.c0, U8 s.pen.c1, U8 s.pen.c2, U8 s.pen.c3, I s.pen.fx, I s.pen.fy, I s.pen.tx, I s.pen.ty, s.pen.st, I s.rule, I s.half, I s.cap, c2, I s.ph, I s.op, I (Go.bits .xor .i64 s.mode 1)]] (frz (upd M (n + 1) (some ⟨[I s.fill.k, U8 s.fill.c0, U8 s.fill.c1, U8 s.fill.c2, U8 s.fill.c3, I s.fill.fx, I s.fill.fy, I s.fill.tx, I s.fill.ty, c1, I s.pen.k, U8 s.pen.c0, U8 s.pen.c1, U8 s.pen.c2, U8 s.pen.c3, I s.pen.fx, I s.pen.fy, I s.pen.tx, I s.pen.ty, s.pen.st, I s.rule, I s.half, I s.cap, c2, I s.ph, I s.op, I (Go.bits .xor .i64 s.mode 1)], true⟩))) n2 = some (RB false) := (v_SEqual s (Sty.mk (Pai.mk s.fill.k s.fill.c0 s.fill.c1 s.fill.c2 s.fill.c3 s.fill.fx s.fill.fy s.fill.tx s.fill.ty c1) (Pai.mk s.pen.k s.pen.c0 s.pen.c1 s.pen.c2 s.pen.c3 s.pen.fx s.pen.fy s.pen.tx s.pen.ty s.pen.st) s.rule s.half s.cap c2 s.ph s.op (Go.bits .xor .i64 s.mode 1)) lf lf lp lp ld ld _ n2 w1.frz w2.frz l1 l2 l3).trans (by simp [styB, paiB, u1, u2])
      have vF2 : callF TA 21 [.agg [I s.fill.k, U8 s.fill.c0, U8 s.fill.c1, U8 s.fill.c2, U8 s.fill.c3, I s.fill.fx, I s.fill.fy, I s.fill.tx, I s.fill.ty, c1, I s.pen.k, U8 s.pen.c0, U8 s.pen.c1, U8 s.pen.c2, U8 s.pen.c3, I s.pen.fx, I s.pen.fy, I s.pen.tx, I s.pen.ty, s.pen.st, I s.rule, I s.half, I s.cap, c2, I s.ph, I s.op, I (Go.bits .xor .i64 s.mode 1)], .agg [I s.fill.k, U8 s.fill.c0, U8 s.fill.c1, U8 s.fill.c2, U8 s.fill.c3, I s.fill.fx, I s.fill.fy, I s.fill.tx, I s.fill.ty, s.fill.st, I s.pen.k, U8 s.pen.c0, U8 s.pen.c1, U8 s.pen.c2, U8 s.pen.c3, I s.pen.fx, I s.pen.fy, I s.pen.tx, I s.pen.ty, s.pen.st, I s.rule, I s.half, I s.cap, s.dl, I s.ph, I s.op, I s.mode]] (frz (upd M (n + 1) (some ⟨[I s.fill.k, U8 s.fill.c0, U8 s.fill.c1, U8 s.fill.c2, U8 s.fill.c3, I s.fill.fx, I s.fill.fy, I s.fill.tx, I s.fill.ty, c1, I s.pen.k, U8 s.pen.c0, U8 s.pen.c1, U8 s.pen.c2, U8 s.pen.c3, I s.pen.fx, I s.pen.fy, I s.pen.tx, I s.pen.ty, s.pen.st, I s.rule, I s.half, I s.cap, c2, I s.ph, I s.op, I (Go.bits .xor .i64 s.mode 1)], true⟩))) n2 = some (RB false) := (v_SEqual (Sty.mk (Pai.mk s.fill.k s.fill.c0 s.fill.c1 s.fill.c2 s.fill.c3 s.fill.fx s.fill.fy s.fill.tx s.fill.ty c1) (Pai.mk s.pen.k s.pen.c0 s.pen.c1 s.pen.c2 s.pen.c3 s.pen.fx s.pen.fy s.pen.tx s.pen.ty s.pen.st) s.rule s.half s.cap c2 s.ph s.op (Go.bits .xor .i64 s.mode 1)) s lf lf lp lp ld ld _ n2 w2.frz w1.frz l1 l2 l3).trans (by simp [styB, paiB, u1, u2])
      try simp only [r5_0, r5_1, r5_2, r5_3, r5_4, r5_5, r5_6, r5_7, r5_8, r5_10, r5_11, r5_12, r5_13, r5_14, r5_15, r5_16, r5_17, r5_18, r5_19, r5_20, r5_21, r5_22, r5_23, r5_24, r5_25, r5_26, r5_27, r5_28, r5_29, r5_9, r5_30, c5, F5, gb0, rd_of gb0, gb1, rd_of gb1, vE1, vE2, j0, j1, j2, j3, j4, y0, y1, vF1, vF2, v_awake16, go_sem, Int.reduceTMod, Int.reduceTDiv, Int.reduceDiv, Int.reduceMod, Int.reduceAdd, Int.reduceSub, Int.reduceMul, Int.reduceNeg, Int.reducePow, Int.reduceEq, ↓reduceIte, Nat.reduceEqDiff, Nat.reduceAdd, Nat.reduceMul, Nat.reduceLeDiff, Nat.reduceSub, Nat.reduceLT, Int.reduceToNat, Int.reduceLT, Int.reduceLE, reduceCtorEq]
      repeat' ((first | refine FK_split (fun h_ => ?_) (fun h_ => ?_) | refine GK_split (fun h_ => ?_) (fun h_ => ?_) | refine ite_both (fun h_ => ?_) (fun h_ => ?_)) <;> (try simp only [decide_eq_true_eq, decide_eq_false_iff_not, Bool.not_true, Bool.not_false, Bool.not_eq_true', Bool.not_eq_false', Bool.not_eq_eq_eq_not, Decidable.not_not] at h_) <;> (try simp only [r5_0, r5_1, r5_2, r5_3, r5_4, r5_5, r5_6, r5_7, r5_8, r5_10, r5_11, r5_12, r5_13, r5_14, r5_15, r5_16, r5_17, r5_18, r5_19, r5_20, r5_21, r5_22, r5_23, r5_24, r5_25, r5_26, r5_27, r5_28, r5_29, r5_9, r5_30, c5, F5, gb0, rd_of gb0, gb1, rd_of gb1, vE1, vE2, j0, j1, j2, j3, j4, y0, y1, vF1, vF2, v_awake16, h_, go_sem, Int.reduceTMod, Int.reduceTDiv, Int.reduceDiv, Int.reduceMod, Int.reduceAdd, Int.reduceSub, Int.reduceMul, Int.reduceNeg, Int.reducePow, Int.reduceEq, ↓reduceIte, Nat.reduceEqDiff, Nat.reduceAdd, Nat.reduceMul, Nat.reduceLeDiff, Nat.reduceSub, Nat.reduceLT, Int.reduceToNat, Int.reduceLT, Int.reduceLE, reduceCtorEq]))
    by_cases j5 : k = 5
    · have w1 := hS (upd M (n + 1) (some ⟨[I s.fill.k, U8 s.fill.c0, U8 s.fill.c1, U8 s.fill.c2, U8 s.fill.c3, I s.fill.fx, I s.fill.fy, I s.fill.tx, I s.fill.ty, c1, I s.pen.k, U8 s.pen.c0, U8 s.pen.c1, U8 s.pen.c2, U8 s.pen.c3, I s.pen.fx, I s.pen.fy, I s.pen.tx, I s.pen.ty, s.pen.st, I s.rule, I s.half, I s.cap, c2, I (Go.bits .xor .i64 s.ph 1), I s.op, I s.mode], true⟩)) n2 (Nat.le_refl _) (fun id hid => upd_ne _ _ (by omega))
      have w2 := hT (upd M (n + 1) (some ⟨[I s.fill.k, U8 s.fill.c0, U8 s.fill.c1, U8 s.fill.c2, U8 s.fill.c3, I s.fill.fx, I s.fill.fy, I s.fill.tx, I s.fill.ty, c1, I s.pen.k, U8 s.pen.c0, U8 s.pen.c1, U8 s.pen.c2, U8 s.pen.c3, I s.pen.fx, I s.pen.fy, I s.pen.tx, I s.pen.ty, s.pen.st, I s.rule, I s.half, I s.cap, c2, I (Go.bits .xor .i64 s.ph 1), I s.op, I s.mode], true⟩)) n2 c1 c2 lf ld (Nat.le_refl _) (fun id hid => upd_ne _ _ (by omega)) ((k1.rl cs5).upd i1 _) ((k2.rl ci1).upd i2 _) (Sty.mk (Pai.mk s.fill.k s.fill.c0 s.fill.c1 s.fill.c2 s.fill.c3 s.fill.fx s.fill.fy s.fill.tx s.fill.ty c1) (Pai.mk s.pen.k s.pen.c0 s.pen.c1 s.pen.c2 s.pen.c3 s.pen.fx s.pen.fy s.pen.tx s.pen.ty s.pen.st) s.rule s.half s.cap c2 (Go.bits .xor .i64 s.ph 1) s.op s.mode) rfl rfl rfl
      have u1 := xor64_ne s.ph
      have u2 := Ne.symm u1
      have vF1 : callF TA 21 [.agg [I s.fill.k, U8 s.fill.c0, U8 s.fill.c1, U8 s.fill.c2, U8 s.fill.c3, I s.fill.fx, I s.fill.fy, I s.fill.tx, I s.fill.ty, s.fill.st, I s.pen.k, U8 s.pen.c0, U8 s.pen.c1, U8 s.pen.c2, U8 s.pen.c3, I s.pen.fx, I s.pen.fy, I s.pen.tx, I s.pen.ty, s.pen.st, I s.rule, I s.half, I s.cap, s.dl, I s.ph, I s.op, I s.mode], .agg [I s.fill.k, U8 s.fill.c0, U8 s.fill.c1, U8 s.fill.c2, U8 s.fill.c3, I s.fill.fx, I s.fill.fy, I s.fill.tx, I s.fill.ty, c1, I s.pen.k, U8 s.pen.c0, U8 s.pen.c1, U8 s.pen.c2, U8 s.pen.c3, I s.pen.fx, I s.pen.fy, I s.pen.tx, I s.pen.ty, s.pen.st, I s.rule, I s.half, I s.cap, c2, I (Go.bits .xor .i64 s.ph 1), I s.op, I s.mode]] (frz (upd M (n + 1) (some ⟨[I s.fill.k, U8 s.fill.c0, U8 s.fill.c1, U8 s.fill.c2, U8 s.fill.c3, I s.fill.fx, I s.fill.fy, I s.fill.tx, I s.fill.ty, c1, I s.pen.k, U8 s.pen.c0, U8 s.pen.c1, U8 s.pen.c2, U8 s.pen.c3, I s.pen.fx, I s.pen.fy, I s.pen.tx, I s.pen.ty, s.pen.st, I s.rule, I s.half, I s.cap, c2, I (Go.bits .xor .i64 s.ph 1), I s.op, I s.mode], true⟩))) n2 = some (RB false) := (v_SEqual s (Sty.mk (Pai.mk s.fill.k s.fill.c0 s.fill.c1 s.fill.c2 s.fill.c3 s.fill.fx s.fill.fy s.fill.tx s.fill.ty c1) (Pai.mk s.pen.k s.pen.c0 s.pen.c1 s.pen.c2 s.pen.c3 s.pen.fx s.pen.fy s.pen.tx s.pen.ty s.pen.st) s.rule s.half s.cap c2 (Go.bits .xor .i64 s.ph 1) s.op s.mode) lf lf lp lp ld ld _ n2 w1.frz w2.frz l1 l2 l3).trans (by simp [styB, paiB, u1, u2])
      have vF2 : callF TA 21 [.agg [I s.fill.k, U8 s.fill.c0, U8 s.fill.c1, U8 s.fill.c2, U8 s.fill.c3, I s.fill.fx, I s.fill.fy, I s.fill.tx, I s.fill.ty, c1, I s.pen.k, U8 s.pen.c0, U8 s.pen.c1, U8 s.pen.c2, U8 s.pen.c3, I s.pen.fx, I s.pen.fy, I s.pen.tx, I s.pen.ty, s.pen.st, I s.rule, I s.half, I s.cap, c2, I (Go.bits .xor .i64 s.ph 1), I s.op, I s.mode], .agg [I s.fill.k, U8 s.fill.c0, U8 s.fill.c1, U8 s.fill.c2, U8 s.fill.c3, I s.fill.fx, I s.fill.fy, I s.fill.tx, I s.fill.ty, s.fill.st, I s.pen.k, U8 s.pen.c0, U8 s.pen.c1, U8 s.pen.c2, U8 s.pen.c3, I s.pen.fx, I s.pen.fy, I s.pen.tx, I s.pen.ty, s.pen.st, I s.rule, I s.half, I s.cap, s.dl, I s.ph, I s.op, I s.mode]] (frz (upd M (n + 1) (some ⟨[I s.fill.k, U8 s.fill.c0, U8 s.fill.c1, U8 s.fill.c2, U8 s.fill.c3, I s.fill.fx, I s.fill.fy, I s.fill.tx, I s.fill.ty, c1, I s.pen.k, U8 s.pen.c0, U8 s.pen.c1, U8 s.pen.c2, U8 s.pen.c3, I s.pen.fx, I s.pen.fy, I s.pen.tx, I s.pen.ty, s.pen.st, I s.rule, I s.half, I s.cap, c2, I (Go.bits .xor .i64 s.ph 1), I s.op, I s.mode], true⟩))) n2 = some (RB false) := (v_SEqual (Sty.mk (Pai.mk s.fill.k s.fill.c0 s.fill.c1 s.fill.c2 s.fill.c3 s.fill.fx s.fill.fy s.fill.tx s.fill.ty c1) (Pai.mk s.pen.k s.pen.c0 s.pen.c1 s.pen.c2 s.pen.c3 s.pen.fx s.pen.fy s.pen.tx s.pen.ty s.pen.st) s.rule s.half s.cap c2 (Go.bits .xor .i64 s.ph 1) s.op s.mode) s lf lf lp lp ld ld _ n2 w2.frz w1.frz l1 l2 l3).trans (by simp [styB, paiB, u1, u2])
      try simp only [r5_0, r5_1, r5_2, r5_3, r5_4, r5_5, r5_6, r5_7, r5_8, r5_10, r5_11, r5_12, r5_13, r5_14, r5_15, r5_16, r5_17, r5_18, r5_19, r5_20, r5_21, r5_22, r5_23, r5_24, r5_25, r5_26, r5_27, r5_28, r5_29, r5_9, r5_30, c5, F5, gb0, rd_of gb0, gb1, rd_of gb1, vE1, vE2, j0, j1, j2, j3, j4, j5, y0, y1, vF1, vF2, v_awake16, go_sem, Int.reduceTMod, Int.reduceTDiv, Int.reduceDiv, Int.reduceMod, Int.reduceAdd, Int.reduceSub, Int.reduceMul, Int.reduceNeg, Int.reducePow, Int.reduceEq, ↓reduceIte, Nat.reduceEqDiff, Nat.reduceAdd, Nat.reduceMul, Nat.reduceLeDiff, Nat.reduceSub, Nat.reduceLT, Int.reduceToNat, Int.reduceLT, Int.reduceLE, reduceCtorEq]
      repeat' ((first | refine FK_split (fun h_ => ?_) (fun h_ => ?_) | refine GK_split (fun h_ => ?_) (fun h_ => ?_) | refine ite_both (fun h_ => ?_) (fun h_ => ?_)) <;> (try simp only [decide_eq_true_eq, decide_eq_false_iff_not, Bool.not_true, Bool.not_false, Bool.not_eq_true', Bool.not_eq_false', Bool.not_eq_eq_eq_not, Decidable.not_not] at h_) <;> (try simp only [r5_0, r5_1, r5_2, r5_3, r5_4, r5_5, r5_6, r5_7, r5_8, r5_10, r5_11, r5_12, r5_13, r5_14, r5_15, r5_16, r5_17, r5_18, r5_19, r5_20, r5_21, r5_22, r5_23, r5_24, r5_25, r5_26, r5_27, r5_28, r5_29, r5_9, r5_30, c5, F5, gb0, rd_of gb0, gb1, rd_of gb1, vE1, vE2, j0, j1, j2, j3, j4, j5, y0, y1, vF1, vF2, v_awake16, h_, go_sem, Int.reduceTMod, Int.reduceTDiv, Int.reduceDiv, Int.reduceMod, Int.reduceAdd, Int.reduceSub, Int.reduceMul, Int.reduceNeg, Int.reducePow, Int.reduceEq, ↓reduceIte, Nat.reduceEqDiff, Nat.reduceAdd, Nat.reduceMul, Nat.reduceLeDiff, Nat.reduceSub, Nat.reduceLT, Int.reduceToNat, Int.reduceLT, Int.reduceLE, reduceCtorEq]))
    by_cases j6 : k = 6
    · skip
      try simp only [r5_6, r5_7, r5_8, r5_9, r5_10, r5_11, r5_12, r5_13, r5_14, r5_15, r5_16, r5_17, r5_18, r5_19, r5_20, r5_21, r5_22, r5_23, gb0, rd_of gb0, gb1, rd_of gb1, vE1, vE2, j0, j1, j2, j3, j4, j5, j6, y0, y1, go_sem, Int.reduceTMod, Int.reduceTDiv, Int.reduceDiv, Int.reduceMod, Int.reduceAdd, Int.reduceSub, Int.reduceMul, Int.reduceNeg, Int.reducePow, Int.reduceEq, ↓reduceIte, Nat.reduceEqDiff, Nat.reduceAdd, Nat.reduceMul, Nat.reduceLeDiff, Nat.reduceSub, Nat.reduceLT, Int.reduceToNat, Int.reduceLT, Int.reduceLE, reduceCtorEq]
      repeat' ((first | refine FK_split (fun h_ => ?_) (fun h_ => ?_) | refine GK_split (fun h_ => ?_) (fun h_ => ?_) | refine ite_both (fun h_ => ?_) (fun h_ => ?_)) <;> (try simp only [decide_eq_true_eq, decide_eq_false_iff_not, Bool.not_true, Bool.not_false, Bool.not_eq_true', Bool.not_eq_false', Bool.not_eq_eq_eq_not, Decidable.not_not] at h_) <;> (try simp only [r5_6, r5_7, r5_8, r5_9, r5_10, r5_11, r5_12, r5_13, r5_14, r5_15, r5_16, r5_17, r5_18, r5_19, r5_20, r5_21, r5_22, r5_23, gb0, rd_of gb0, gb1, rd_of gb1, vE1, vE2, j0, j1, j2, j3, j4, j5, j6, y0, y1, h_, go_sem, Int.reduceTMod, Int.reduceTDiv, Int.reduceDiv, Int.reduceMod, Int.reduceAdd, Int.reduceSub, Int.reduceMul, Int.reduceNeg, Int.reducePow, Int.reduceEq, ↓reduceIte, Nat.reduceEqDiff, Nat.reduceAdd, Nat.reduceMul, Nat.reduceLeDiff, Nat.reduceSub, Nat.reduceLT, Int.reduceToNat, Int.reduceLT, Int.reduceLE, reduceCtorEq]))
      refine K_appP (p := (1 : Int)) (o := true) ci1 k2 (show n2 ≤ n2 + 1 by omega) (fun id q1 q2 => upd_ne _ _ (by omega)) (upd_same _ _ _) (by omega) ?_
      intro c3 m5 hO3 hN3 hf3
      have hb5 : ∀ id, id < n + 2 → m5 id = M id := fun id hid => by
        rw [hf3 id (by omega) (fun e => by have := i5 id e; omega), upd_ne _ _ (by omega)]
      have gd0 : m5 n = some ⟨[I s.fill.k, U8 s.fill.c0, U8 s.fill.c1, U8 s.fill.c2, U8 s.fill.c3, I s.fill.fx, I s.fill.fy, I s.fill.tx, I s.fill.ty, s.fill.st, I s.pen.k, U8 s.pen.c0, U8 s.pen.c1, U8 s.pen.c2, U8 s.pen.c3, I s.pen.fx, I s.pen.fy, I s.pen.tx, I s.pen.ty, s.pen.st, I s.rule, I s.half, I s.cap, s.dl, I s.ph, I s.op, I s.mode], true⟩ := by rw [hb5 n (by omega)]; exact gb0
      have gd1 : m5 (n + 1) = some ⟨[I s.fill.k, U8 s.fill.c0, U8 s.fill.c1, U8 s.fill.c2, U8 s.fill.c3, I s.fill.fx, I s.fill.fy, I s.fill.tx, I s.fill.ty, c1, I s.pen.k, U8 s.pen.c0, U8 s.pen.c1, U8 s.pen.c2, U8 s.pen.c3, I s.pen.fx, I s.pen.fy, I s.pen.tx, I s.pen.ty, s.pen.st, I s.rule, I s.half, I s.cap, c2, I s.ph, I s.op, I s.mode], true⟩ := by rw [hb5 (n + 1) (by omega)]; exact gb1
      have ro : RSt m5 (n2 + 2) (.one c1) lf := (k1.rl cs5).keep' (by omega) (fun id hid => by have := i4 id hid; rw [hf3 id (by omega) (fun e => by have := i5 id e; omega), upd_ne _ _ (by omega)])
      have i3 : sid (.one c3) ≠ some (n + 1) := fun e => by have := hN3 _ e; omega
      have w1 := hS (upd m5 (n + 1) (some ⟨[I s.fill.k, U8 s.fill.c0, U8 s.fill.c1, U8 s.fill.c2, U8 s.fill.c3, I s.fill.fx, I s.fill.fy, I s.fill.tx, I s.fill.ty, c1, I s.pen.k, U8 s.pen.c0, U8 s.pen.c1, U8 s.pen.c2, U8 s.pen.c3, I s.pen.fx, I s.pen.fy, I s.pen.tx, I s.pen.ty, s.pen.st, I s.rule, I s.half, I s.cap, c3, I s.ph, I s.op, I s.mode], true⟩)) (n2 + 2) (by omega) (fun id hid => by rw [upd_ne _ _ (by omega)]; exact hb5 id (by omega))
      have w2 := hT (upd m5 (n + 1) (some ⟨[I s.fill.k, U8 s.fill.c0, U8 s.fill.c1, U8 s.fill.c2, U8 s.fill.c3, I s.fill.fx, I s.fill.fy, I s.fill.tx, I s.fill.ty, c1, I s.pen.k, U8 s.pen.c0, U8 s.pen.c1, U8 s.pen.c2, U8 s.pen.c3, I s.pen.fx, I s.pen.fy, I s.pen.tx, I s.pen.ty, s.pen.st, I s.rule, I s.half, I s.cap, c3, I s.ph, I s.op, I s.mode], true⟩)) (n2 + 2) c1 c3 lf (ld ++ [1]) (by omega) (fun id hid => by rw [upd_ne _ _ (by omega)]; exact hb5 id (by omega)) (ro.upd i1 _) (hO3.upd i3 _) (Sty.mk (Pai.mk s.fill.k s.fill.c0 s.fill.c1 s.fill.c2 s.fill.c3 s.fill.fx s.fill.fy s.fill.tx s.fill.ty c1) (Pai.mk s.pen.k s.pen.c0 s.pen.c1 s.pen.c2 s.pen.c3 s.pen.fx s.pen.fy s.pen.tx s.pen.ty s.pen.st) s.rule s.half s.cap c3 s.ph s.op s.mode) rfl rfl rfl
      have vF1 : callF TA 21 [.agg [I s.fill.k, U8 s.fill.c0, U8 s.fill.c1, U8 s.fill.c2, U8 s.fill.c3, I s.fill.fx, I s.fill.fy, I s.fill.tx, I s.fill.ty, s.fill.st, I s.pen.k, U8 s.pen.c0, U8 s.pen.c1, U8 s.pen.c2, U8 s.pen.c3, I s.pen.fx, I s.pen.fy, I s.pen.tx, I s.pen.ty, s.pen.st, I s.rule, I s.half, I s.cap, s.dl, I s.ph, I s.op, I s.mode], .agg [I s.fill.k, U8 s.fill.c0, U8 s.fill.c1, U8 s.fill.c2, U8 s.fill.c3, I s.fill.fx, I s.fill.fy, I s.fill.tx, I s.fill.ty, c1, I s.pen.k, U8 s.pen.c0, U8 s.pen.c1, U8 s.pen.c2, U8 s.pen.c3, I s.pen.fx, I s.pen.fy, I s.pen.tx, I s.pen.ty, s.pen.st, I s.rule, I s.half, I s.cap, c3, I s.ph, I s.op, I s.mode]] (frz (upd m5 (n + 1) (some ⟨[I s.fill.k, U8 s.fill.c0, U8 s.fill.c1, U8 s.fill.c2, U8 s.fill.c3, I s.fill.fx, I s.fill.fy, I s.fill.tx, I s.fill.ty, c1, I s.pen.k, U8 s.pen.c0, U8 s.pen.c1, U8 s.pen.c2, U8 s.pen.c3, I s.pen.fx, I s.pen.fy, I s.pen.tx, I s.pen.ty, s.pen.st, I s.rule, I s.half, I s.cap, c3, I s.ph, I s.op, I s.mode], true⟩))) (n2 + 2) = some (RB false) := (v_SEqual s (Sty.mk (Pai.mk s.fill.k s.fill.c0 s.fill.c1 s.fill.c2 s.fill.c3 s.fill.fx s.fill.fy s.fill.tx s.fill.ty c1) (Pai.mk s.pen.k s.pen.c0 s.pen.c1 s.pen.c2 s.pen.c3 s.pen.fx s.pen.fy s.pen.tx s.pen.ty s.pen.st) s.rule s.half s.cap c3 s.ph s.op s.mode) lf lf lp lp ld (ld ++ [1]) _ _ w1.frz w2.frz l1 l2 l3).trans (by simp [styB, paiB])
      have vF2 : callF TA 21 [.agg [I s.fill.k, U8 s.fill.c0, U8 s.fill.c1, U8 s.fill.c2, U8 s.fill.c3, I s.fill.fx, I s.fill.fy, I s.fill.tx, I s.fill.ty, c1, I s.pen.k, U8 s.pen.c0, U8 s.pen.c1, U8 s.pen.c2, U8 s.pen.c3, I s.pen.fx, I s.pen.fy, I s.pen.tx, I s.pen.ty, s.pen.st, I s.rule, I s.half, I s.cap, c3, I s.ph, I s.op, I s.mode], .agg [I s.fill.k, U8 s.fill.c0, U8 s.fill.c1, U8 s.fill.c2, U8 s.fill.c3, I s.fill.fx, I s.fill.fy, I s.fill.tx, I s.fill.ty, s.fill.st, I s.pen.k, U8 s.pen.c0, U8 s.pen.c1, U8 s.pen.c2, U8 s.pen.c3, I s.pen.fx, I s.pen.fy, I s.pen.tx, I s.pen.ty, s.pen.st, I s.rule, I s.half, I s.cap, s.dl, I s.ph, I s.op, I s.mode]] (frz (upd m5 (n + 1) (some ⟨[I s.fill.k, U8 s.fill.c0, U8 s.fill.c1, U8 s.fill.c2, U8 s.fill.c3, I s.fill.fx, I s.fill.fy, I s.fill.tx, I s.fill.ty, c1, I s.pen.k, U8 s.pen.c0, U8 s.pen.c1, U8 s.pen.c2, U8 s.pen.c3, I s.pen.fx, I s.pen.fy, I s.pen.tx, I s.pen.ty, s.pen.st, I s.rule, I s.half, I s.cap, c3, I s.ph, I s.op, I s.mode], true⟩))) (n2 + 2) = some (RB false) := (v_SEqual (Sty.mk (Pai.mk s.fill.k s.fill.c0 s.fill.c1 s.fill.c2 s.fill.c3 s.fill.fx s.fill.fy s.fill.tx s.fill.ty c1) (Pai.mk s.pen.k s.pen.c0 s.pen.c1 s.pen.c2 s.pen.c3 s.pen.fx s.pen.fy s.pen.tx s.pen.ty s.pen.st) s.rule s.half s.cap c3 s.ph s.op s.mode) s lf lf lp lp (ld ++ [1]) ld _ _ w2.frz w1.frz l1 l2 (by rw [List.length_append]; show ld.length + 1 < 4294967296; omega)).trans (by simp [styB, paiB])
      try simp only [r5_30, gd0, rd_of gd0, gd1, rd_of gd1, vF1, vF2, v_awake16, go_sem, Int.reduceTMod, Int.reduceTDiv, Int.reduceDiv, Int.reduceMod, Int.reduceAdd, Int.reduceSub, Int.reduceMul, Int.reduceNeg, Int.reducePow, Int.reduceEq, ↓reduceIte, Nat.reduceEqDiff, Nat.reduceAdd, Nat.reduceMul, Nat.reduceLeDiff, Nat.reduceSub, Nat.reduceLT, Int.reduceToNat, Int.reduceLT, Int.reduceLE, reduceCtorEq]
      repeat' ((first | refine FK_split (fun h_ => ?_) (fun h_ => ?_) | refine GK_split (fun h_ => ?_) (fun h_ => ?_) | refine ite_both (fun h_ => ?_) (fun h_ => ?_)) <;> (try simp only [decide_eq_true_eq, decide_eq_false_iff_not, Bool.not_true, Bool.not_false, Bool.not_eq_true', Bool.not_eq_false', Bool.not_eq_eq_eq_not, Decidable.not_not] at h_) <;> (try simp only [r5_30, gd0, rd_of gd0, gd1, rd_of gd1, vF1, vF2, v_awake16, h_, go_sem, Int.reduceTMod, Int.reduceTDiv, Int.reduceDiv, Int.reduceMod, Int.reduceAdd, Int.reduceSub, Int.reduceMul, Int.reduceNeg, Int.reducePow, Int.reduceEq, ↓reduceIte, Nat.reduceEqDiff, Nat.reduceAdd, Nat.reduceMul, Nat.reduceLeDiff, Nat.reduceSub, Nat.reduceLT, Int.reduceToNat, Int.reduceLT, Int.reduceLE, reduceCtorEq]))
    by_cases j7 : k = 7
    · have w1 := hS (upd M (n + 1) (some ⟨[I s.fill.k, U8 s.fill.c0, U8 s.fill.c1, U8 (Go.bits .xor .u8 s.fill.c2 1), U8 s.fill.c3, I s.fill.fx, I s.fill.fy, I s.fill.tx, I s.fill.ty, c1, I s.pen.k, U8 s.pen.c0, U8 s.pen.c1, U8 s.pen.c2, U8 s.pen.c3, I s.pen.fx, I s.pen.fy, I s.pen.tx, I s.pen.ty, s.pen.st, I s.rule, I s.half, I s.cap, c2, I s.ph, I s.op, I s.mode], true⟩)) n2 (Nat.le_refl _) (fun id hid => upd_ne _ _ (by omega))
      have w2 := hT (upd M (n + 1) (some ⟨[I s.fill.k, U8 s.fill.c0, U8 s.fill.c1, U8 (Go.bits .xor .u8 s.fill.c2 1), U8 s.fill.c3, I s.fill.fx, I s.fill.fy, I s.fill.tx, I s.fill.ty, c1, I s.pen.k, U8 s.pen.c0, U8 s.pen.c1, U8 s.pen.c2, U8 s.pen.c3, I s.pen.fx, I s.pen.fy, I s.pen.tx, I s.pen.ty, s.pen.st, I s.rule, I s.half, I s.cap, c2, I s.ph, I s.op, I s.mode], true⟩)) n2 c1 c2 lf ld (Nat.le_refl _) (fun id hid => upd_ne _ _ (by omega)) ((k1.rl cs5).upd i1 _) ((k2.rl ci1).upd i2 _) (Sty.mk (Pai.mk s.fill.k s.fill.c0 s.fill.c1 (Go.bits .xor .u8 s.fill.c2 1) s.fill.c3 s.fill.fx s.fill.fy s.fill.tx s.fill.ty c1) (Pai.mk s.pen.k s.pen.c0 s.pen.c1 s.pen.c2 s.pen.c3 s.pen.fx s.pen.fy s.pen.tx s.pen.ty s.pen.st) s.rule s.half s.cap c2 s.ph s.op s.mode) rfl rfl rfl
      have u1 := xor8_ne s.fill.c2
      have u2 := Ne.symm u1
      have vF1 : callF TA 21 [.agg [I s.fill.k, U8 s.fill.c0, U8 s.fill.c1, U8 s.fill.c2, U8 s.fill.c3, I s.fill.fx, I s.fill.fy, I s.fill.tx, I s.fill.ty, s.fill.st, I s.pen.k, U8 s.pen.c0, U8 s.pen.c1, U8 s.pen.c2, U8 s.pen.c3, I s.pen.fx, I s.pen.fy, I s.pen.tx, I s.pen.ty, s.pen.st, I s.rule, I s.half, I s.cap, s.dl, I s.ph, I s.op, I s.mode], .agg [I s.fill.k, U8 s.fill.c0, U8 s.fill.c1, U8 (Go.bits .xor .u8 s.fill.c2 1), U8 s.fill.c3, I s.fill.fx, I s.fill.fy, I s.fill.tx, I s.fill.ty, c1, I s.pen.k, U8 s.pen.c0, U8 s.pen.c1, U8 s.pen.c2, U8 s.pen.c3, I s.pen.fx, I s.pen.fy, I s.pen.tx, I s.pen.ty, s.pen.st, I s.rule, I s.half, I s.cap, c2, I s.ph, I s.op, I s.mode]] (frz (upd M (n + 1) (some ⟨[I s.fill.k, U8 s.fill.c0, U8 s.fill.c1, U8 (Go.bits .xor .u8 s.fill.c2 1), U8 s.fill.c3, I s.fill.fx, I s.fill.fy, I s.fill.tx, I s.fill.ty, c1, I s.pen.k, U8 s.pen.c0, U8 s.pen.c1, U8 s.pen.c2, U8 s.pen.c3, I s.pen.fx, I s.pen.fy, I s.pen.tx, I s.pen.ty, s.pen.st, I s.rule, I s.half, I s.cap, c2, I s.ph, I s.op, I s.mode], true⟩))) n2 = some (RB false) := (v_SEqual s (Sty.mk (Pai.mk s.fill.k s.fill.c0 s.fill.c1 (Go.bits .xor .u8 s.fill.c2 1) s.fill.c3 s.fill.fx s.fill.fy s.fill.tx s.fill.ty c1) (Pai.mk s.pen.k s.pen.c0 s.pen.c1 s.pen.c2 s.pen.c3 s.pen.fx s.pen.fy s.pen.tx s.pen.ty s.pen.st) s.rule s.half s.cap c2 s.ph s.op s.mode) lf lf lp lp ld ld _ n2 w1.frz w2.frz l1 l2 l3).trans (by simp [styB, paiB, u1, u2])
      have vF2 : callF TA 21 [.agg [I s.fill.k, U8 s.fill.c0, U8 s.fill.c1, U8 (Go.bits .xor .u8 s.fill.c2 1), U8 s.fill.c3, I s.fill.fx, I s.fill.fy, I s.fill.tx, I s.fill.ty, c1, I s.pen.k, U8 s.pen.c0, U8 s.pen.c1, U8 s.pen.c2, U8 s.pen.c3, I s.pen.fx, I s.pen.fy, I s.pen.tx, I s.pen.ty, s.pen.st, I s.rule, I s.half, I s.cap, c2, I s.ph, I s.op, I s.mode], .agg [I s.fill.k, U8 s.fill.c0, U8 s.fill.c1, U8 s.fill.c2, U8 s.fill.c3, I s.fill.fx, I s.fill.fy, I s.fill.tx, I s.fill.ty, s.fill.st, I s.pen.k, U8 s.pen.c0, U8 s.pen.c1, U8 s.pen.c2, U8 s.pen.c3, I s.pen.fx, I s.pen.fy, I s.pen.tx, I s.pen.ty, s.pen.st, I s.rule, I s.half, I s.cap, s.dl, I s.ph, I s.op, I s.mode]] (frz (upd M (n + 1) (some ⟨[I s.fill.k, U8 s.fill.c0, U8 s.fill.c1, U8 (Go.bits .xor .u8 s.fill.c2 1), U8 s.fill.c3, I s.fill.fx, I s.fill.fy, I s.fill.tx, I s.fill.ty, c1, I s.pen.k, U8 s.pen.c0, U8 s.pen.c1, U8 s.pen.c2, U8 s.pen.c3, I s.pen.fx, I s.pen.fy, I s.pen.tx, I s.pen.ty, s.pen.st, I s.rule, I s.half, I s.cap, c2, I s.ph, I s.op, I s.mode], true⟩))) n2 = some (RB false) := (v_SEqual (Sty.mk (Pai.mk s.fill.k s.fill.c0 s.fill.c1 (Go.bits .xor .u8 s.fill.c2 1) s.fill.c3 s.fill.fx s.fill.fy s.fill.tx s.fill.ty c1) (Pai.mk s.pen.k s.pen.c0 s.pen.c1 s.pen.c2 s.pen.c3 s.pen.fx s.pen.fy s.pen.tx s.pen.ty s.pen.st) s.rule s.half s.cap c2 s.ph s.op s.mode) s lf lf lp lp ld ld _ n2 w2.frz w1.frz l1 l2 l3).trans (by simp [styB, paiB, u1, u2])
      try simp only [r5_0, r5_1, r5_2, r5_3, r5_4, r5_5, r5_6, r5_7, r5_8, r5_10, r5_11, r5_12, r5_13, r5_14, r5_15, r5_16, r5_17, r5_18, r5_19, r5_20, r5_21, r5_22, r5_23, r5_24, r5_25, r5_26, r5_27, r5_28, r5_29, r5_9, r5_30, c5, F5, gb0, rd_of gb0, gb1, rd_of gb1, vE1, vE2, j0, j1, j2, j3, j4, j5, j6, j7, y0, y1, vF1, vF2, v_awake16, go_sem, Int.reduceTMod, Int.reduceTDiv, Int.reduceDiv, Int.reduceMod, Int.reduceAdd, Int.reduceSub, Int.reduceMul, Int.reduceNeg, Int.reducePow, Int.reduceEq, ↓reduceIte, Nat.reduceEqDiff, Nat.reduceAdd, Nat.reduceMul, Nat.reduceLeDiff, Nat.reduceSub, Nat.reduceLT, Int.reduceToNat, Int.reduceLT, Int.reduceLE, reduceCtorEq]
      repeat' ((first | refine FK_split (fun h_ => ?_) (fun h_ => ?_) | refine GK_split (fun h_ => ?_) (fun h_ => ?_) | refine ite_both (fun h_ => ?_) (fun h_ => ?_)) <;> (try simp only [decide_eq_true_eq, decide_eq_false_iff_not, Bool.not_true, Bool.not_false, Bool.not_eq_true', Bool.not_eq_false', Bool.not_eq_eq_eq_not, Decidable.not_not] at h_) <;> (try simp only [r5_0, r5_1, r5_2, r5_3, r5_4, r5_5, r5_6, r5_7, r5_8, r5_10, r5_11, r5_12, r5_13, r5_14, r5_15, r5_16, r5_17, r5_18, r5_19, r5_20, r5_21, r5_22, r5_23, r5_24, r5_25, r5_26, r5_27, r5_28, r5_29, r5_9, r5_30, c5, F5, gb0, rd_of gb0, gb1, rd_of gb1, vE1, vE2, j0, j1, j2, j3, j4, j5, j6, j7, y0, y1, vF1, vF2, v_awake16, h_, go_sem, Int.reduceTMod, Int.reduceTDiv, Int.reduceDiv, Int.reduceMod, Int.reduceAdd, Int.reduceSub, Int.reduceMul, Int.reduceNeg, Int.reducePow, Int.reduceEq, ↓reduceIte, Nat.reduceEqDiff, Nat.reduceAdd, Nat.reduceMul, Nat.reduceLeDiff, Nat.reduceSub, Nat.reduceLT, Int.reduceToNat, Int.reduceLT, Int.reduceLE, reduceCtorEq]))
    by_cases j8 : k = 8
    · have w1 := hS (upd M (n + 1) (some ⟨[I s.fill.k, U8 s.fill.c0, U8 s.fill.c1, U8 s.fill.c2, U8 s.fill.c3, I s.fill.fx, I s.fill.fy, I s.fill.tx, I s.fill.ty, c1, I s.pen.k, U8 s.pen.c0, U8 s.pen.c1, U8 s.pen.c2, U8 s.pen.c3, I (Go.bits .xor .i64 s.pen.fx 1), I s.pen.fy, I s.pen.tx, I s.pen.ty, s.pen.st, I s.rule, I s.half, I s.cap, c2, I s.ph, I s.op, I s.mode], true⟩)) n2 (Nat.le_refl _) (fun id hid => upd_ne _ _ (by omega))
      have w2 := hT (upd M (n + 1) (some ⟨[I s.fill.k, U8 s.fill.c0, U8 s.fill.c1, U8 s.fill.c2, U8 s.fill.c3, I s.fill.fx, I s.fill.fy, I s.fill.tx, I s.fill.ty, c1, I s.pen.k, U8 s.pen.c0, U8 s.pen.c1, U8 s.pen.c2, U8 s.pen.c3, I (Go.bits .xor .i64 s.pen.fx 1), I s.pen.fy, I s.pen.tx, I s.pen.ty, s.pen.st, I s.rule, I s.half, I s.cap, c2, I s.ph, I s.op, I s.mode], true⟩)) n2 c1 c2 lf ld (Nat.le_refl _) (fun id hid => upd_ne _ _ (by omega)) ((k1.rl cs5).upd i1 _) ((k2.rl ci1).upd i2 _) (Sty.mk (Pai.mk s.fill.k s.fill.c0 s.fill.c1 s.fill.c2 s.fill.c3 s.fill.fx s.fill.fy s.fill.tx s.fill.ty c1) (Pai.mk s.pen.k s.pen.c0 s.pen.c1 s.pen.c2 s.pen.c3 (Go.bits .xor .i64 s.pen.fx 1) s.pen.fy s.pen.tx s.pen.ty s.pen.st) s.rule s.half s.cap c2 s.ph s.op s.mode) rfl rfl rfl
      have u1 := xor64_ne s.pen.fx
      have u2 := Ne.symm u1
      have vF1 : callF TA 21 [.agg [I s.fill.k, U8 s.fill.c0, U8 s.fill.c1, U8 s.fill.c2, U8 s.fill.c3, I s.fill.fx, I s.fill.fy, I s.fill.tx, I s.fill.ty, s.fill.st, I s.pen.k, U8 s.pen.c0, U8 s.pen.c1, U8 s.pen.c2, U8 s.pen.c3, I s.pen.fx, I s.pen.fy, I s.pen.tx, I s.pen.ty, s.pen.st, I s.rule, I s.half, I s.cap, s.dl, I s.ph, I s.op, I s.mode], .agg [I s.fill.k, U8 s.fill.c0, U8 s.fill.c1, U8 s.fill.c2, U8 s.fill.c3, I s.fill.fx, I s.fill.fy, I s.fill.tx, I s.fill.ty, c1, I s.pen.k, U8 s.pen.c0, U8 s.pen.c1, U8 s.pen.c2, U8 s.pen.c3, I (Go.bits .xor .i64 s.pen.fx 1), I s.pen.fy, I s.pen.tx, I s.pen.ty, s.pen.st, I s.rule, I s.half, I s.cap, c2, I s.ph, I s.op, I s.mode]] (frz (upd M (n + 1) (some ⟨[I s.fill.k, U8 s.fill.c0, U8 s.fill.c1, U8 s.fill.c2, U8 s.fill.c3, I s.fill.fx, I s.fill.fy, I s.fill.tx, I s.fill.ty, c1, I s.pen.k, U8 s.pen.c0, U8 s.pen.c1, U8 s.pen.c2, U8 s.pen.c3, I (Go.bits .xor .i64 s.pen.fx 1), I s.pen.fy, I s.pen.tx, I s.pen.ty, s.pen.st, I s.rule, I s.half, I s.cap, c2, I s.ph, I s.op, I s.mode], true⟩))) n2 = some (RB false) := (v_SEqual s (Sty.mk (Pai.mk s.fill.k s.fill.c0 s.fill.c1 s.fill.c2 s.fill.c3 s.fill.fx s.fill.fy s.fill.tx s.fill.ty c1) (Pai.mk s.pen.k s.pen.c0 s.pen.c1 s.pen.c2 s.pen.c3 (Go.bits .xor .i64 s.pen.fx 1) s.pen.fy s.pen.tx s.pen.ty s.pen.st) s.rule s.half s.cap c2 s.ph s.op s.mode) lf lf lp lp ld ld _ n2 w1.frz w2.frz l1 l2 l3).trans (by simp [styB, paiB, u1, u2])
      have vF2 : callF TA 21 [.agg [I s.fill.k, U8 s.fill.c0, U8 s.fill.c1, U8 s.fill.c2, U8 s.fill.c3, I s.fill.fx, I s.fill.fy, I s.fill.tx, I s.fill.ty, c1, I s.pen.k, U8 s.pen.c0, U8 s.pen.c1, U8 s.pen.c2, U8 s.pen.c3, I (Go.bits .xor .i64 s.pen.fx 1), I s.pen.fy, I s.pen.tx, I s.pen.ty, s.pen.st, I s.rule, I s.half, I s.cap, c2, I s.ph, I s.op, I s.mode], .agg [I s.fill.k, U8 s.fill.c0, U8 s.fill.c1, U8 s.fill.c2, U8 s.fill.c3, I s.fill.fx, I s.fill.fy, I s.fill.tx, I s.fill.ty, s.fill.st, I s.pen.k, U8 s.pen.c0, U8 s.pen.c1, U8 s.pen.c2, U8 s.pen.c3, I s.pen.fx, I s.pen.fy, I s.pen.tx, I s.pen.ty, s.pen.st, I s.rule, I s.half, I s.cap, s.dl, I s.ph, I s.op, I s.mode]] (frz (upd M (n + 1) (some ⟨[I s.fill.k, U8 s.fill.c0, U8 s.fill.c1, U8 s.fill.c2, U8 s.fill.c3, I s.fill.fx, I s.fill.fy, I s.fill.tx, I s.fill.ty, c1, I s.pen.k, U8 s.pen.c0, U8 s.pen.c1, U8 s.pen.c2, U8 s.pen.c3, I (Go.bits .xor .i64 s.pen.fx 1), I s.pen.fy, I s.pen.tx, I s.pen.ty, s.pen.st, I s.rule, I s.half, I s.cap, c2, I s.ph, I s.op, I s.mode], true⟩))) n2 = some (RB false) := (v_SEqual (Sty.mk (Pai.mk s.fill.k s.fill.c0 s.fill.c1 s.fill.c2 s.fill.c3 s.fill.fx s.fill.fy s.fill.tx s.fill.ty c1) (Pai.mk s.pen.k s.pen.c0 s.pen.c1 s.pen.c2 s.pen.c3 (Go.bits .xor .i64 s.pen.fx 1) s.pen.fy s.pen.tx s.pen.ty s.pen.st) s.rule s.half s.cap c2 s.ph s.op s.mode) s lf lf lp lp ld ld _ n2 w2.frz w1.frz l1 l2 l3).trans (by simp [styB, paiB, u1, u2])
      try simp only [r5_0, r5_1, r5_2, r5_3, r5_4, r5_5, r5_6, r5_7, r5_8, r5_10, r5_11, r5_12, r5_13, r5_14, r5_15, r5_16, r5_17, r5_18, r5_19, r5_20, r5_21, r5_22, r5_23, r5_24, r5_25, r5_26, r5_27, r5_28, r5_29, r5_9, r5_30, c5, F5, gb0, rd_of gb0, gb1, rd_of gb1, vE1, vE2, j0, j1, j2, j3, j4, j5, j6, j7, j8, y0, y1, vF1, vF2, v_awake16, go_sem, Int.reduceTMod, Int.reduceTDiv, Int.reduceDiv, Int.reduceMod, Int.reduceAdd, Int.reduceSub, Int.reduceMul, Int.reduceNeg, Int.reducePow, Int.reduceEq, ↓reduceIte, Nat.reduceEqDiff, Nat.reduceAdd, Nat.reduceMul, Nat.reduceLeDiff, Nat.reduceSub, Nat.reduceLT, Int.reduceToNat, Int.reduceLT, Int.reduceLE, reduceCtorEq]
      repeat' ((first | refine FK_split (fun h_ => ?_) (fun h_ => ?_) | refine GK_split (fun h_ => ?_) (fun h_ => ?_) | refine ite_both (fun h_ => ?_) (fun h_ => ?_)) <;> (try simp only [decide_eq_true_eq, decide_eq_false_iff_not, Bool.not_true, Bool.not_false, Bool.not_eq_true', Bool.not_eq_false', Bool.not_eq_eq_eq_not, Decidable.not_not] at h_) <;> (try simp only [r5_0, r5_1, r5_2, r5_3, r5_4, r5_5, r5_6, r5_7, r5_8, r5_10, r5_11, r5_12, r5_13, r5_14, r5_15, r5_16, r5_17, r5_18, r5_19, r5_20, r5_21, r5_22, r5_23, r5_24, r5_25, r5_26, r5_27, r5_28, r5_29, r5_9, r5_30, c5, F5, gb0, rd_of gb0, gb1, rd_of gb1, vE1, vE2, j0, j1, j2, j3, j4, j5, j6, j7, j8, y0, y1, vF1, vF2, v_awake16, h_, go_sem, Int.reduceTMod, Int.reduceTDiv, Int.reduceDiv, Int.reduceMod, Int.reduceAdd, Int.reduceSub, Int.reduceMul, Int.reduceNeg, Int.reducePow, Int.reduceEq, ↓reduceIte, Nat.reduceEqDiff, Nat.reduceAdd, Nat.reduceMul, Nat.reduceLeDiff, Nat.reduceSub, Nat.reduceLT, Int.reduceToNat, Int.reduceLT, Int.reduceLE, reduceCtorEq]))
    by_cases j9 : k = 9
    · skip
      try simp only [r5_6, r5_7, r5_8, r5_9, r5_10, r5_11, r5_12, r5_13, r5_14, r5_15, r5_16, r5_17, r5_18, r5_19, r5_20, r5_21, r5_22, r5_23, r5_24, r5_25, r5_26, r5_27, r5_28, r5_29, gb0, rd_of gb0, gb1, rd_of gb1, vE1, vE2, j0, j1, j2, j3, j4, j5, j6, j7, j8, j9, y0, y1, go_sem, Int.reduceTMod, Int.reduceTDiv, Int.reduceDiv, Int.reduceMod, Int.reduceAdd, Int.reduceSub, Int.reduceMul, Int.reduceNeg, Int.reducePow, Int.reduceEq, ↓reduceIte, Nat.reduceEqDiff, Nat.reduceAdd, Nat.reduceMul, Nat.reduceLeDiff, Nat.reduceSub, Nat.reduceLT, Int.reduceToNat, Int.reduceLT, Int.reduceLE, reduceCtorEq]
      repeat' ((first | refine FK_split (fun h_ => ?_) (fun h_ => ?_) | refine GK_split (fun h_ => ?_) (fun h_ => ?_) | refine ite_both (fun h_ => ?_) (fun h_ => ?_)) <;> (try simp only [decide_eq_true_eq, decide_eq_false_iff_not, Bool.not_true, Bool.not_false, Bool.not_eq_true', Bool.not_eq_false', Bool.not_eq_eq_eq_not, Decidable.not_not] at h_) <;> (try simp only [r5_6, r5_7, r5_8, r5_9, r5_10, r5_11, r5_12, r5_13, r5_14, r5_15, r5_16, r5_17, r5_18, r5_19, r5_20, r5_21, r5_22, r5_23, r5_24, r5_25, r5_26, r5_27, r5_28, r5_29, gb0, rd_of gb0, gb1, rd_of gb1, vE1, vE2, j0, j1, j2, j3, j4, j5, j6, j7, j8, j9, y0, y1, h_, go_sem, Int.reduceTMod, Int.reduceTDiv, Int.reduceDiv, Int.reduceMod, Int.reduceAdd, Int.reduceSub, Int.reduceMul, Int.reduceNeg, Int.reducePow, Int.reduceEq, ↓reduceIte, Nat.reduceEqDiff, Nat.reduceAdd, Nat.reduceMul, Nat.reduceLeDiff, Nat.reduceSub, Nat.reduceLT, Int.reduceToNat, Int.reduceLT, Int.reduceLE, reduceCtorEq]))
      refine K_appP (p := (⟨0, 0, 0, 0, 0⟩ : Stp)) (o := true) cs5 k1 (show n2 ≤ n2 + 1 by omega) (fun id q1 q2 => upd_ne _ _ (by omega)) (upd_same _ _ _) (by omega) ?_
      intro c3 m5 hO3 hN3 hf3
      have hb5 : ∀ id, id < n + 2 → m5 id = M id := fun id hid => by
        rw [hf3 id (by omega) (fun e => by have := i4 id e; omega), upd_ne _ _ (by omega)]
      have gd0 : m5 n = some ⟨[I s.fill.k, U8 s.fill.c0, U8 s.fill.c1, U8 s.fill.c2, U8 s.fill.c3, I s.fill.fx, I s.fill.fy, I s.fill.tx, I s.fill.ty, s.fill.st, I s.pen.k, U8 s.pen.c0, U8 s.pen.c1, U8 s.pen.c2, U8 s.pen.c3, I s.pen.fx, I s.pen.fy, I s.pen.tx, I s.pen.ty, s.pen.st, I s.rule, I s.half, I s.cap, s.dl, I s.ph, I s.op, I s.mode], true⟩ := by rw [hb5 n (by omega)]; exact gb0
      have gd1 : m5 (n + 1) = some ⟨[I s.fill.k, U8 s.fill.c0, U8 s.fill.c1, U8 s.fill.c2, U8 s.fill.c3, I s.fill.fx, I s.fill.fy, I s.fill.tx, I s.fill.ty, c1, I s.pen.k, U8 s.pen.c0, U8 s.pen.c1, U8 s.pen.c2, U8 s.pen.c3, I s.pen.fx, I s.pen.fy, I s.pen.tx, I s.pen.ty, s.pen.st, I s.rule, I s.half, I s.cap, c2, I s.ph, I s.op, I s.mode], true⟩ := by rw [hb5 (n + 1) (by omega)]; exact gb1
      have ro : RIn m5 (n2 + 2) (.one c2) ld := (k2.rl ci1).keep' (by omega) (fun id hid => by have := i5 id hid; rw [hf3 id (by omega) (fun e => by have := i4 id e; omega), upd_ne _ _ (by omega)])
      have i3 : sid (.one c3) ≠ some (n + 1) := fun e => by have := hN3 _ e; omega
      have w1 := hS (upd m5 (n + 1) (some ⟨[I s.fill.k, U8 s.fill.c0, U8 s.fill.c1, U8 s.fill.c2, U8 s.fill.c3, I s.fill.fx, I s.fill.fy, I s.fill.tx, I s.fill.ty, c3, I s.pen.k, U8 s.pen.c0, U8 s.pen.c1, U8 s.pen.c2, U8 s.pen.c3, I s.pen.fx, I s.pen.fy, I s.pen.tx, I s.pen.ty, s.pen.st, I s.rule, I s.half, I s.cap, c2, I s.ph, I s.op, I s.mode], true⟩)) (n2 + 2) (by omega) (fun id hid => by rw [upd_ne _ _ (by omega)]; exact hb5 id (by omega))
      have w2 := hT (upd m5 (n + 1) (some ⟨[I s.fill.k, U8 s.fill.c0, U8 s.fill.c1, U8 s.fill.c2, U8 s.fill.c3, I s.fill.fx, I s.fill.fy, I s.fill.tx, I s.fill.ty, c3, I s.pen.k, U8 s.pen.c0, U8 s.pen.c1, U8 s.pen.c2, U8 s.pen.c3, I s.pen.fx, I s.pen.fy, I s.pen.tx, I s.pen.ty, s.pen.st, I s.rule, I s.half, I s.cap, c2, I s.ph, I s.op, I s.mode], true⟩)) (n2 + 2) c3 c2 (lf ++ [⟨0, 0, 0, 0, 0⟩]) ld (by omega) (fun id hid => by rw [upd_ne _ _ (by omega)]; exact hb5 id (by omega)) (hO3.upd i3 _) (ro.upd i2 _) (Sty.mk (Pai.mk s.fill.k s.fill.c0 s.fill.c1 s.fill.c2 s.fill.c3 s.fill.fx s.fill.fy s.fill.tx s.fill.ty c3) (Pai.mk s.pen.k s.pen.c0 s.pen.c1 s.pen.c2 s.pen.c3 s.pen.fx s.pen.fy s.pen.tx s.pen.ty s.pen.st) s.rule s.half s.cap c2 s.ph s.op s.mode) rfl rfl rfl
      have vF1 : callF TA 21 [.agg [I s.fill.k, U8 s.fill.c0, U8 s.fill.c1, U8 s.fill.c2, U8 s.fill.c3, I s.fill.fx, I s.fill.fy, I s.fill.tx, I s.fill.ty, s.fill.st, I s.pen.k, U8 s.pen.c0, U8 s.pen.c1, U8 s.pen.c2, U8 s.pen.c3, I s.pen.fx, I s.pen.fy, I s.pen.tx, I s.pen.ty, s.pen.st, I s.rule, I s.half, I s.cap, s.dl, I s.ph, I s.op, I s.mode], .agg [I s.fill.k, U8 s.fill.c0, U8 s.fill.c1, U8 s.fill.c2, U8 s.fill.c3, I s.fill.fx, I s.fill.fy, I s.fill.tx, I s.fill.ty, c3, I s.pen.k, U8 s.pen.c0, U8 s.pen.c1, U8 s.pen.c2, U8 s.pen.c3, I s.pen.fx, I s.pen.fy, I s.pen.tx, I s.pen.ty, s.pen.st, I s.rule, I s.half, I s.cap, c2, I s.ph, I s.op, I s.mode]] (frz (upd m5 (n + 1) (some ⟨[I s.fill.k, U8 s.fill.c0, U8 s.fill.c1, U8 s.fill.c2, U8 s.fill.c3, I s.fill.fx, I s.fill.fy, I s.fill.tx, I s.fill.ty, c3, I s.pen.k, U8 s.pen.c0, U8 s.pen.c1, U8 s.pen.c2, U8 s.pen.c3, I s.pen.fx, I s.pen.fy, I s.pen.tx, I s.pen.ty, s.pen.st, I s.rule, I s.half, I s.cap, c2, I s.ph, I s.op, I s.mode], true⟩))) (n2 + 2) = some (RB false) := (v_SEqual s (Sty.mk (Pai.mk s.fill.k s.fill.c0 s.fill.c1 s.fill.c2 s.fill.c3 s.fill.fx s.fill.fy s.fill.tx s.fill.ty c3) (Pai.mk s.pen.k s.pen.c0 s.pen.c1 s.pen.c2 s.pen.c3 s.pen.fx s.pen.fy s.pen.tx s.pen.ty s.pen.st) s.rule s.half s.cap c2 s.ph s.op s.mode) lf (lf ++ [⟨0, 0, 0, 0, 0⟩]) lp lp ld ld _ _ w1.frz w2.frz l1 l2 l3).trans (by simp [styB, paiB])
      have vF2 : callF TA 21 [.agg [I s.fill.k, U8 s.fill.c0, U8 s.fill.c1, U8 s.fill.c2, U8 s.fill.c3, I s.fill.fx, I s.fill.fy, I s.fill.tx, I s.fill.ty, c3, I s.pen.k, U8 s.pen.c0, U8 s.pen.c1, U8 s.pen.c2, U8 s.pen.c3, I s.pen.fx, I s.pen.fy, I s.pen.tx, I s.pen.ty, s.pen.st, I s.rule, I s.half, I s.cap, c2, I s.ph, I s.op, I s.mode], .agg [I s.fill.k, U8 s.fill.c0, U8 s.fill.c1, U8 s.fill.c2, U8 s.fill.c3, I s.fill.fx, I s.fill.fy, I s.fill.tx, I s.fill.ty, s.fill.st, I s.pen.k, U8 s.pen.c0, U8 s.pen.c1, U8 s.pen.c2, U8 s.pen.c3, I s.pen.fx, I s.pen.fy, I s.pen.tx, I s.pen.ty, s.pen.st, I s.rule, I s.half, I s.cap, s.dl, I s.ph, I s.op, I s.mode]] (frz (upd m5 (n + 1) (some ⟨[I s.fill.k, U8 s.fill.c0, U8 s.fill.c1, U8 s.fill.c2, U8 s.fill.c3, I s.fill.fx, I s.fill.fy, I s.fill.tx, I s.fill.ty, c3, I s.pen.k, U8 s.pen.c0, U8 s.pen.c1, U8 s.pen.c2, U8 s.pen.c3, I s.pen.fx, I s.pen.fy, I s.pen.tx, I s.pen.ty, s.pen.st, I s.rule, I s.half, I s.cap, c2, I s.ph, I s.op, I s.mode], true⟩))) (n2 + 2) = some (RB false) := (v_SEqual (Sty.mk (Pai.mk s.fill.k s.fill.c0 s.fill.c1 s.fill.c2 s.fill.c3 s.fill.fx s.fill.fy s.fill.tx s.fill.ty c3) (Pai.mk s.pen.k s.pen.c0 s.pen.c1 s.pen.c2 s.pen.c3 s.pen.fx s.pen.fy s.pen.tx s.pen.ty s.pen.st) s.rule s.half s.cap c2 s.ph s.op s.mode) s (lf ++ [⟨0, 0, 0, 0, 0⟩]) lf lp lp ld ld _ _ w2.frz w1.frz (by rw [List.length_append]; show lf.length + 1 < 4294967296; omega) l2 l3).trans (by simp [styB, paiB])
      try simp only [r5_30, gd0, rd_of gd0, gd1, rd_of gd1, vF1, vF2, v_awake16, go_sem, Int.reduceTMod, Int.reduceTDiv, Int.reduceDiv, Int.reduceMod, Int.reduceAdd, Int.reduceSub, Int.reduceMul, Int.reduceNeg, Int.reducePow, Int.reduceEq, ↓reduceIte, Nat.reduceEqDiff, Nat.reduceAdd, Nat.reduceMul, Nat.reduceLeDiff, Nat.reduceSub, Nat.reduceLT, Int.reduceToNat, Int.reduceLT, Int.reduceLE, reduceCtorEq]
      repeat' ((first | refine FK_split (fun h_ => ?_) (fun h_ => ?_) | refine GK_split (fun h_ => ?_) (fun h_ => ?_) | refine ite_both (fun h_ => ?_) (fun h_ => ?_)) <;> (try simp only [decide_eq_true_eq, decide_eq_false_iff_not, Bool.not_true, Bool.not_false, Bool.not_eq_true', Bool.not_eq_false', Bool.not_eq_eq_eq_not, Decidable.not_not] at h_) <;> (try simp only [r5_30, gd0, rd_of gd0, gd1, rd_of gd1, vF1, vF2, v_awake16, h_, go_sem, Int.reduceTMod, Int.reduceTDiv, Int.reduceDiv, Int.reduceMod, Int.reduceAdd, Int.reduceSub, Int.reduceMul, Int.reduceNeg, Int.reducePow, Int.reduceEq, ↓reduceIte, Nat.reduceEqDiff, Nat.reduceAdd, Nat.reduceMul, Nat.reduceLeDiff, Nat.reduceSub, Nat.reduceLT, Int.reduceToNat, Int.reduceLT, Int.reduceLE, reduceCtorEq]))
    try simp only [r5_0, r5_1, r5_2, r5_3, r5_4, r5_5, r5_6, r5_7, r5_8, r5_10, r5_11, r5_12, r5_13, r5_14, r5_15, r5_16, r5_17, r5_18, r5_19, r5_20, r5_21, r5_22, r5_23, r5_24, r5_25, r5_26, r5_27, r5_28, r5_29, r5_9, r5_30, c5, F5, gb0, rd_of gb0, gb1, rd_of gb1, vE1, vE2, j0, j1, j2, j3, j4, j5, j6, j7, j8, j9, y0, y1, v_awake16, go_sem, Int.reduceTMod, Int.reduceTDiv, Int.reduceDiv, Int.reduceMod, Int.reduceAdd, Int.reduceSub, Int.reduceMul, Int.reduceNeg, Int.reducePow, Int.reduceEq, ↓reduceIte, Nat.reduceEqDiff, Nat.reduceAdd, Nat.reduceMul, Nat.reduceLeDiff, Nat.reduceSub, Nat.reduceLT, Int.reduceToNat, Int.reduceLT, Int.reduceLE, reduceCtorEq]
    repeat' ((first | refine FK_split (fun h_ => ?_) (fun h_ => ?_) | refine GK_split (fun h_ => ?_) (fun h_ => ?_) | refine ite_both (fun h_ => ?_) (fun h_ => ?_)) <;> (try simp only [decide_eq_true_eq, decide_eq_false_iff_not, Bool.not_true, Bool.not_false, Bool.not_eq_true', Bool.not_eq_false', Bool.not_eq_eq_eq_not, Decidable.not_not] at h_) <;> (try simp only [r5_0, r5_1, r5_2, r5_3, r5_4, r5_5, r5_6, r5_7, r5_8, r5_10, r5_11, r5_12, r5_13, r5_14, r5_15, r5_16, r5_17, r5_18, r5_19, r5_20, r5_21, r5_22, r5_23, r5_24, r5_25, r5_26, r5_27, r5_28, r5_29, r5_9, r5_30, c5, F5, gb0, rd_of gb0, gb1, rd_of gb1, vE1, vE2, j0, j1, j2, j3, j4, j5, j6, j7, j8, j9, y0, y1, v_awake16, h_, go_sem, Int.reduceTMod, Int.reduceTDiv, Int.reduceDiv, Int.reduceMod, Int.reduceAdd, Int.reduceSub, Int.reduceMul, Int.reduceNeg, Int.reducePow, Int.reduceEq, ↓reduceIte, Nat.reduceEqDiff, Nat.reduceAdd, Nat.reduceMul, Nat.reduceLeDiff, Nat.reduceSub, Nat.reduceLT, Int.reduceToNat, Int.reduceLT, Int.reduceLE, reduceCtorEq]))
  · have g' : (decide ((lf.length : Int) ≤ 60) && (decide ((lp.length : Int) ≤ 60) && decide ((ld.length : Int) ≤ 60))) = false := by
      rw [Bool.eq_false_iff]
      intro h
      simp only [Bool.and_eq_true, decide_eq_true_eq] at h
      exact g h
    rw [g'] at vs
    try simp only [r5_0, r5_1, r5_2, r5_3, r5_4, r5_5, r5_6, r5_7, r5_8, r5_10, r5_11, r5_12, r5_13, r5_14, r5_15, r5_16, r5_17, r5_18, r5_19, r5_20, r5_21, r5_22, r5_23, r5_24, r5_25, r5_26, r5_27, r5_28, r5_29, r5_9, r5_30, c5, F5, vs, FrB_refl, FrB_upd, FrB_upd0, Nat.le_add_right, v_awake16, go_sem, Int.reduceTMod, Int.reduceTDiv, Int.reduceDiv, Int.reduceMod, Int.reduceAdd, Int.reduceSub, Int.reduceMul, Int.reduceNeg, Int.reducePow, Int.reduceEq, ↓reduceIte, Nat.reduceEqDiff, Nat.reduceAdd, Nat.reduceMul, Nat.reduceLeDiff, Nat.reduceSub, Nat.reduceLT, Int.reduceToNat, Int.reduceLT, Int.reduceLE, reduceCtorEq]
    repeat' ((first | refine FK_split (fun h_ => ?_) (fun h_ => ?_) | refine GK_split (fun h_ => ?_) (fun h_ => ?_) | refine ite_both (fun h_ => ?_) (fun h_ => ?_)) <;> (try simp only [decide_eq_true_eq, decide_eq_false_iff_not, Bool.not_true, Bool.not_false, Bool.not_eq_true', Bool.not_eq_false', Bool.not_eq_eq_eq_not, Decidable.not_not] at h_) <;> (try simp only [r5_0, r5_1, r5_2, r5_3, r5_4, r5_5, r5_6, r5_7, r5_8, r5_10, r5_11, r5_12, r5_13, r5_14, r5_15, r5_16, r5_17, r5_18, r5_19, r5_20, r5_21, r5_22, r5_23, r5_24, r5_25, r5_26, r5_27, r5_28, r5_29, r5_9, r5_30, c5, F5, vs, FrB_refl, FrB_upd, FrB_upd0, Nat.le_add_right, v_awake16, h_, go_sem, Int.reduceTMod, Int.reduceTDiv, Int.reduceDiv, Int.reduceMod, Int.reduceAdd, Int.reduceSub, Int.reduceMul, Int.reduceNeg, Int.reducePow, Int.reduceEq, ↓reduceIte, Nat.reduceEqDiff, Nat.reduceAdd, Nat.reduceMul, Nat.reduceLeDiff, Nat.reduceSub, Nat.reduceLT, Int.reduceToNat, Int.reduceLT, Int.reduceLE, reduceCtorEq]))

/- SyQ: arguments of a law, opened for the evaluator. A plain library of this session's own; conditions: none beyond those that each theorem names. -/
open Go.RowKit Go.ChangeShapes Go.WideShapes Go.Deep

inductive CK where
  | int (k : IntKind)
  | bool

/-- Cells of these kinds. -/
def CksOk : List CK → List Value → Prop
  | [], vs => vs = []
  | .int k :: ks, vs => ∃ n r, vs = .int k n :: r ∧ (k.min ≤ n ∧ n ≤ k.max) ∧ CksOk ks r
  | .bool :: ks, vs => ∃ b r, vs = .bool b :: r ∧ CksOk ks r

def goF (P : Program) (rec : TypeId → Option (List CK)) : List Field → Nat → Option (List CK)
  | [], _ => some []
  | f :: fs, off =>
    match rec f.type with
    | none => none
    | some ks => if f.offset = off ∧ ks.length = P.cellsOf f.type then (goF P rec fs (off + ks.length)).map (ks ++ ·) else none

/-- The kinds of a type's cells, where all are numbers or Bools. -/
def kindsK (P : Program) : Nat → TypeId → Option (List CK)
  | 0, _ => none
  | n + 1, t =>
    match P.underlying t with
    | some (.int k) => some [.int k]
    | some .bool => some [.bool]
    | some (.struct fs) => (goF P (kindsK P n) fs.toList 0).bind fun ks => if ks.length = P.cellsOf t then some ks else none
    | some (.array m e) => (kindsK P n e).bind fun ks => if ks.length = P.cellsOf e ∧ m * ks.length = P.cellsOf t then some (List.replicate m ks).flatten else none
    | _ => none

theorem CksOk.app : ∀ {ks ls : List CK} {a b : List Value}, CksOk ks a → CksOk ls b → CksOk (ks ++ ls) (a ++ b)
  | [], ls, a, b, h, h' => by simp only [CksOk] at h; subst h; exact h'
  | .int k :: ks, ls, a, b, h, h' => by
    obtain ⟨n, r, rfl, h1, h2⟩ := h
    exact ⟨n, r ++ b, rfl, h1, CksOk.app h2 h'⟩
  | .bool :: ks, ls, a, b, h, h' => by
    obtain ⟨n, r, rfl, h2⟩ := h
    exact ⟨n, r ++ b, rfl, CksOk.app h2 h'⟩

theorem CksOk.len : ∀ {ks : List CK} {a : List Value}, CksOk ks a → a.length = ks.length
  | [], a, h => by simp only [CksOk] at h; subst h; rfl
  | .int k :: ks, a, h => by
    obtain ⟨n, r, rfl, h1, h2⟩ := h
    simp [CksOk.len h2]
  | .bool :: ks, a, h => by
    obtain ⟨n, r, rfl, h2⟩ := h
    simp [CksOk.len h2]

theorem CksOk.rel {ρ : Loc} {n : Nat} {w : World} : ∀ {ks : List CK} {a : List Value}, CksOk ks a → CRels ρ n w (a.map .sc) a
  | [], a, h => by simp only [CksOk] at h; subst h; simp [CRels]
  | .int k :: ks, a, h => by
    obtain ⟨m, r, rfl, h1, h2⟩ := h
    simp only [List.map_cons, CRels]
    exact ⟨_, _, rfl, ⟨rfl, rfl⟩, CksOk.rel h2⟩
  | .bool :: ks, a, h => by
    obtain ⟨m, r, rfl, h2⟩ := h
    simp only [List.map_cons, CRels]
    exact ⟨_, _, rfl, ⟨rfl, rfl⟩, CksOk.rel h2⟩

/-- Whatever reads as_ data of the type has these cells. -/
def OpK (P : Program) (T : TypeId) (ks : List CK) : Prop :=
  ∀ (H : Type) (enc : TypeId × Value → H) (w : World) (base : Nat) (spare : Nat → Bool) (held : Bool) (fuel : Nat) (cs : List Value) (x : DataW H × List MemPlace),
    DataW.trod enc P w base spare held fuel T cs = some x → CksOk ks cs

theorem has_of_wf {k : IntKind} {n : Int} (h : (Lit.int k n).wf = true) : k.min ≤ n ∧ n ≤ k.max := by
  simpa only [Lit.wf, Bool.and_eq_true, decide_eq_true_eq] using h

theorem goF_ok {P : Program} {rec : TypeId → Option (List CK)} (hrec : ∀ t ks, rec t = some ks → OpK P t ks) {H : Type} {enc : TypeId × Value → H} {w : World} {base : Nat} {spare : Nat → Bool} {held : Bool} {fuel : Nat} :
    ∀ {fs : List Field} {off : Nat} {ks : List CK} {cs : List Value}, goF P rec fs off = some ks → cs.length = off + ks.length →
      (∀ f ∈ fs, ∃ x, DataW.trod enc P w base spare held fuel f.type ((cs.drop f.offset).take (P.cellsOf f.type)) = some x) → CksOk ks (cs.drop off)
  | [], off, ks, cs, h, hl, hf => by
    simp only [goF, Option.some.injEq] at h
    subst h
    show cs.drop off = []
    exact List.drop_eq_nil_of_le (by simp at hl; omega)
  | f :: fs, off, ks, cs, h, hl, hf => by
    simp only [goF] at h
    split at h
    · cases h
    rename_i ks1 h1
    split at h
    case isFalse => cases h
    rename_i hc
    obtain ⟨ks2, h2, rfl⟩ := Option.map_eq_some_iff.1 h
    obtain ⟨x, hx⟩ := hf f (by simp)
    have h3 := hrec _ _ h1 H enc w base spare held fuel _ _ hx
    rw [hc.1, ← hc.2] at h3
    have h4 := goF_ok hrec (fs := fs) (off := off + ks1.length) (cs := cs) h2 (by simp at hl; omega) (fun g hg => hf g (by simp [hg]))
    have := h3.app h4
    rwa [← List.drop_drop, List.take_append_drop] at this

theorem rep_ok {ks : List CK} : ∀ (m : Nat) (cs : List Value), cs.length = m * ks.length → (∀ i, i < m → CksOk ks ((cs.drop (i * ks.length)).take ks.length)) → CksOk (List.replicate m ks).flatten cs
  | 0, cs, hl, h => by
    simp only [Nat.zero_mul, List.length_eq_zero_iff] at hl
    subst hl
    exact rfl
  | m + 1, cs, hl, h => by
    rw [List.replicate_succ, List.flatten_cons]
    have h0 := h 0 (by omega)
    rw [Nat.zero_mul, List.drop_zero] at h0
    have h1 := rep_ok (ks := ks) m (cs.drop ks.length) (by rw [List.length_drop, hl, Nat.succ_mul]; omega) (fun i hi => by
      have := h (i + 1) (by omega)
      rwa [Nat.succ_mul, Nat.add_comm, ← List.drop_drop] at this)
    have := h0.app h1
    rwa [List.take_append_drop] at this

theorem kindsK_ok {P : Program} : ∀ {k : Nat} {T : TypeId} {ks : List CK}, kindsK P k T = some ks → OpK P T ks
  | 0, T, ks, h => by simp [kindsK] at h
  | k + 1, T, ks, h => by
    intro H enc w base spare held fuel cs x hx
    simp only [kindsK] at h
    split at h
    · rename_i kd ht
      cases h
      obtain ⟨n, rfl, _, hw⟩ := DataW.trod_int ht hx
      exact ⟨n, [], rfl, has_of_wf hw, rfl⟩
    · rename_i ht
      cases h
      obtain ⟨b, rfl, _⟩ := DataW.trod_bool ht hx
      exact ⟨b, [], rfl, rfl⟩
    · rename_i fs ht
      obtain ⟨ks', h1, h2⟩ := Option.bind_eq_some_iff.1 h
      split at h2
      case isFalse => cases h2
      cases h2
      rename_i hlen
      obtain ⟨xs, n, _, _, hl, hxs, hf⟩ := DataW.trod_struct ht hx
      have := goF_ok (fun t ks h => kindsK_ok h) (H := H) (enc := enc) (w := w) (base := base) (spare := spare) (held := held) (fuel := n) (cs := cs) h1 (by rw [hl, hlen]; omega) (fun f hfm => by
        obtain ⟨i, hi, rfl⟩ := List.mem_iff_getElem.1 hfm
        have hi' : i < fs.size := by simpa using hi
        have := hf i fs[i] (by simp [hi'])
        rw [List.getElem?_eq_getElem (by omega)] at this
        exact ⟨_, by simpa using this⟩)
      rwa [List.drop_zero] at this
    · rename_i m e ht
      obtain ⟨ks', h1, h2⟩ := Option.bind_eq_some_iff.1 h
      split at h2
      case isFalse => cases h2
      cases h2
      rename_i hc
      obtain ⟨xs, n, _, _, hl, hxs, hf⟩ := DataW.trod_array ht hx
      refine rep_ok m cs (by rw [hl, hc.2]) (fun i hi => ?_)
      have := hf i hi
      rw [List.getElem?_eq_getElem (by omega), ← hc.1] at this
      exact kindsK_ok h1 H enc w base spare held n _ _ this
    · cases h

/-- A flat argument that is a struct or an array. -/
theorem arg_agg {P : Program} {T : TypeId} {ks : List CK} {k : Nat} (hk : kindsK P k T = some ks) {H : Type} {enc : TypeId × Value → H} {w : World} {base : Nat} {spare : Nat → Bool} {held : Bool} {cs : Array Value} {d : DataW H} {ps : List MemPlace}
    (h : DataW.Trod enc P w base spare held T (.agg cs) d ps) : ∃ l : List Value, cs = l.toArray ∧ CksOk ks l := by
  obtain ⟨fuel, hf⟩ := h
  exact ⟨cs.toList, by simp, kindsK_ok hk H enc w base spare held fuel _ _ hf⟩

theorem arg_int {P : Program} {T : TypeId} {k : IntKind} {w : World} {base : Nat} {v : Value} (ht : P.underlying T = some (.int k)) (h : Value.okWide P w .any base T v) : ∃ n, v = .int k n ∧ k.min ≤ n ∧ n ≤ k.max := by
  simp only [Value.okWide, ht, Cell.okWide] at h
  cases v <;> simp_all [Cell.ok, IntKind.has]

theorem arg_arr {P : Program} {w : World} {r : Reach} {base : Nat} {t e : TypeId} {n : Nat} {v : Value} (ht : P.underlying t = some (.array n e)) (h : Value.okWide P w r base t v) : ∃ cs, v = .agg cs ∧ cs.size = P.cellsOf t := by
  simp only [Value.okWide, ht] at h
  obtain ⟨cs, h1, h2, _⟩ := h
  exact ⟨cs, h1, h2⟩

/-- Rows of cells of these kinds. -/
def RowsOk (ks : List CK) (n : Nat) (vs : List Value) : Prop := CksOk (List.replicate n ks).flatten vs

/-- A slice of flat elements: nil, or a row of cells that stands in the world. -/
theorem arg_slice {P : Program} {T e : TypeId} {ks : List CK} {k : Nat} (ht : P.underlying T = some (.slice e)) (hk : kindsK P k e = some ks) (hc : P.cellsOf e = ks.length) (h0 : ks.length ≠ 0) {H : Type} {enc : TypeId × Value → H} {w : World} {base base' : Nat} {held : Bool} {v : Value} {d : DataW H} {ps : List MemPlace}
    (hv : Value.okWide P w .any base' T v) (h : DataW.Trod enc P w base (fun _ => true) held T v d ps) :
    v = .slice none 0 0 ∨ ∃ b o len cap vs, v = .slice (some ⟨b, o, none⟩) len cap ∧ b < w.heap.size ∧ len ≤ cap ∧ cap ≤ maxLen ∧ RowsOk ks cap vs ∧ ∀ (i : Nat) (x : Value), vs[i]? = some x → w.cell? ⟨b, o + i, none⟩ = some x := by
  obtain ⟨a, len, cap, rfl⟩ := okWide_slice ht hv
  obtain ⟨fuel, hf⟩ := h
  rcases open_slice ht hf with ⟨hcs, _⟩ | ⟨a', len', cap', m, n, D, Pl, hcs, _, hl, hm, hmm, _, hx⟩
  · left
    exact (List.cons.inj hcs).1
  · right
    obtain ⟨rfl, rfl, rfl⟩ := Value.slice.inj (List.cons.inj hcs).1
    rw [if_pos rfl] at hmm
    subst hmm
    have hspot : a'.spot = none ∧ a'.block < w.heap.size := by
      simp only [Value.okWide, ht, Cell.okWide, Cell.ok] at hv
      obtain ⟨_, _, _, h1, row, cells, h2, _⟩ := hv
      refine ⟨h1, ?_⟩
      unfold World.shape? at h2
      split at h2
      · rename_i hb
        exact (Array.getElem?_eq_some_iff.1 hb).1
      · cases h2
    obtain ⟨b, o, sp⟩ := a'
    obtain ⟨rfl, hb⟩ := hspot
    refine ⟨b, o, len, m, (List.range (m * ks.length)).map (fun i => (w.cell? ⟨b, o + i, none⟩).getD (.bool false)), rfl, hb, hl, hm, ?_, ?_⟩
    · refine rep_ok m _ (by simp) (fun i hi => ?_)
      obtain ⟨cs', h1, h2⟩ := hx i hi
      have h3 := kindsK_ok hk H enc w base _ held n _ _ h2
      obtain ⟨_, h4, h5⟩ := World.cells?_some h1
      have hle : i * ks.length + ks.length ≤ m * ks.length := by
        have := Nat.mul_le_mul_right ks.length (show i + 1 ≤ m from hi)
        rwa [Nat.succ_mul] at this
      have : ((List.map (fun i => (w.cell? ⟨b, o + i, none⟩).getD (.bool false)) (List.range (m * ks.length))).drop (i * ks.length)).take ks.length = cs' := by
        refine List.ext_getElem? (fun j => ?_)
        rw [hc] at h4 h5
        by_cases hj : j < ks.length
        · rw [List.getElem?_take_of_lt hj, List.getElem?_drop, List.getElem?_map, List.getElem?_range (by omega)]
          have h6 := h5 j hj
          rw [Deep.add_add] at h6
          have h7 : (⟨b, o, none⟩ : Addr).add (i * ks.length + j) = ⟨b, o + (i * ks.length + j), none⟩ := by
            unfold Addr.add
            split
            · rename_i hz; rw [hz]; rfl
            · rfl
          rw [h7] at h6
          rw [Option.map_some, h6, List.getElem?_eq_getElem (by omega)]
          rfl
        · rw [List.getElem?_eq_none (by simp; omega), List.getElem?_eq_none (by omega)]
      rw [this]
      exact h3
    · intro i x hi
      rw [List.getElem?_map] at hi
      obtain ⟨j, hj, rfl⟩ := Option.map_eq_some_iff.1 hi
      obtain ⟨hj1, rfl⟩ := List.getElem?_eq_some_iff.1 hj
      rw [List.getElem_range] at hj ⊢
      have hj2 : i < m * ks.length := by simpa using hj1
      have hpos : 0 < ks.length := by omega
      have hdm := Nat.div_add_mod i ks.length
      have hmod := Nat.mod_lt i hpos
      have hdiv : i / ks.length < m := Nat.div_lt_of_lt_mul (by rwa [Nat.mul_comm])
      obtain ⟨cs', h1, _⟩ := hx _ hdiv
      obtain ⟨_, h4, h5⟩ := World.cells?_some h1
      rw [hc] at h4 h5
      have h6 := h5 _ hmod
      rw [Deep.add_add] at h6
      have h7 : (⟨b, o, none⟩ : Addr).add (i / ks.length * ks.length + i % ks.length) = ⟨b, o + i, none⟩ := by
        unfold Addr.add
        rw [Nat.mul_comm, hdm]
        split
        · rename_i hz; rw [hz]; rfl
        · rfl
      rw [h7, List.getElem?_eq_getElem (by omega)] at h6
      rw [h6]
      rfl

/-! ### memory -/
def Held (m : Mem) : Prop := ∀ id b, m id = some b → b.own = false
theorem held_none : Held (fun _ => none) := fun _ _ h => by cases h
theorem held_upd {m : Mem} (h : Held m) (k : Nat) (cs : List Cell) : Held (upd m k (some ⟨cs, false⟩)) := by
  intro id b hb
  unfold upd at hb
  split at hb
  · cases hb; rfl
  · exact h id b hb

def atL (ρ : Loc) (n b o : Nat) : Loc := fun id => if id = n then (b, o) else ρ id

theorem atL_le {ρ : Loc} {n : Nat} {w : World} {b o : Nat} : Le ρ n w (atL ρ n b o) (n + 1) w :=
  ⟨by omega, fun id hi => by unfold atL; rw [if_neg (by omega)], fun _ h => h⟩

theorem rows_rel {ρ : Loc} {n : Nat} {w : World} {ks : List CK} {cap : Nat} {vs : List Value} (h : RowsOk ks cap vs) : ∀ (i : Nat) (x : Value), vs[i]? = some x → CRel ρ n w (.sc x) x := by
  intro i x hx
  have h1 : ∀ {ks : List CK} {vs : List Value}, CksOk ks vs → ∀ v ∈ vs, v.oneCell' = true := by
    intro ks vs h
    have hr : CRels ρ n w (vs.map .sc) vs := h.rel
    exact CRels.all_one _ _ hr
  exact ⟨rfl, h1 h x (List.mem_of_getElem? hx)⟩

/-- One row of cells more, held. -/
theorem addRow {ρ : Loc} {n : Nat} {w : World} {m : Mem} (hm : MRel ρ n w m) (hh : Held m) {b o cap : Nat} {ks : List CK} {vs : List Value} (hb : b < w.heap.size) (hr : RowsOk ks cap vs) (hc : ∀ (i : Nat) (x : Value), vs[i]? = some x → w.cell? ⟨b, o + i, none⟩ = some x) :
    MRel (atL ρ n b o) (n + 1) w (upd m n (some ⟨vs.map .sc, false⟩)) := by
  refine ⟨fun id bl h => ?_, fun id bl h => ?_, fun id bl h i c hi => ?_, fun id bl h ho => ?_, fun id bl h ho => ?_⟩
  · unfold upd at h
    split at h
    · omega
    · have := hm.lt id bl h; omega
  · unfold upd at h
    unfold atL
    split at h
    · rename_i he; rw [if_pos he]; exact hb
    · rename_i he; rw [if_neg he]; exact hm.blk id bl h
  · unfold upd at h
    split at h
    · rename_i he
      cases h
      subst he
      rw [List.getElem?_map] at hi
      obtain ⟨x, hx, rfl⟩ := Option.map_eq_some_iff.1 hi
      refine ⟨x, ?_, rows_rel hr i x hx⟩
      unfold atL
      rw [if_pos rfl]
      exact hc i x hx
    · rename_i he
      obtain ⟨v, h1, h2⟩ := hm.cells id bl h i c hi
      refine ⟨v, ?_, CRel.mono atL_le _ _ h2⟩
      unfold atL
      rw [if_neg he]
      exact h1
  · rw [held_upd hh n _ id bl h] at ho; cases ho
  · rw [held_upd hh n _ id bl h] at ho; cases ho

/-- The slice over such a row. -/
theorem addSl {ρ : Loc} {n : Nat} {w : World} {b o len cap sz : Nat} {vs : List Value} (hl : len ≤ cap) (hv : vs.length = cap * sz) (hc : ∀ (i : Nat) (x : Value), vs[i]? = some x → w.cell? ⟨b, o + i, none⟩ = some x) :
    RRel (atL ρ n b o) (n + 1) w (.one (.sl n 0 len none sz)) (.slice (some ⟨b, o, none⟩) len cap) := by
  have h0 : (atL ρ n b o) n = (b, o) := if_pos rfl
  refine ⟨by omega, o, cap, by rw [h0], fun _ => by rw [h0]; rfl, hl, (by intro c h; cases h), fun j hj => ?_⟩
  rw [h0]
  rw [hc j _ (List.getElem?_eq_getElem (by omega))]
  rfl

/- Arguments that are structs with slices in them, opened for the evaluator. Conditions: those that each theorem names. -/
open Go.RowKit Go.ChangeShapes Go.WideShapes Go.Deep
set_option linter.unusedVariables false

/-- What a cell holds that is a slice of flat elements. -/
def SlOk (w : World) (ks : List CK) (v : Value) : Prop :=
  v = .slice none 0 0 ∨ ∃ b o len cap vs, v = .slice (some ⟨b, o, none⟩) len cap ∧ b < w.heap.size ∧ len ≤ cap ∧ cap ≤ maxLen ∧ RowsOk ks cap vs ∧ ∀ (i : Nat) (x : Value), vs[i]? = some x → w.cell? ⟨b, o + i, none⟩ = some x

/-- A struct all of whose fields take one cell. -/
theorem arg_mix {P : Program} {T : TypeId} {fs : Array Field} {ts : List TypeId} (ht : P.underlying T = some (.struct fs)) (hts : P.cellTypes P.depth T = some ts) {H : Type} {enc : TypeId × Value → H} {w : World} {base base' : Nat} {held : Bool} {v : Value} {d : DataW H} {ps : List MemPlace}
    (hv : Value.okWide P w .any base' T v) (h : DataW.Trod enc P w base (fun _ => true) held T v d ps) :
    ∃ cs : List Value, v = .agg cs.toArray ∧ cs.length = P.cellsOf T ∧ ∀ (j : Nat) (f : Field) (c : Value), fs[j]? = some f → P.cellsOf f.type = 1 → (∀ u, ts[f.offset % ts.length]? = some u → u = f.type) → cs[f.offset]? = some c →
      Cell.okWide P w .any base' f.type c ∧ ∃ x fuel, DataW.trod enc P w base (fun _ => true) held fuel f.type [c] = some x := by
  simp only [Value.okWide, ht] at hv
  obtain ⟨cs, rfl, hsz, ts', h1, h2, h3⟩ := hv
  obtain rfl := Option.some.inj (hts.symm.trans h1)
  obtain ⟨fuel, hf⟩ := h
  have hf' : DataW.trod enc P w base (fun _ => true) held fuel T cs.toList = some (d, ps) := hf
  obtain ⟨xs, n, _, _, hl, hxs, hg⟩ := DataW.trod_struct ht hf'
  refine ⟨cs.toList, by simp, by simpa using hsz, fun j f c hj hc1 hu hc => ?_⟩
  obtain ⟨u, hu1, hu2⟩ := h3 f.offset c (by simpa using hc)
  have e := hu u hu1
  subst e
  refine ⟨hu2, ?_⟩
  have h4 := hg j f hj
  rw [hc1] at h4
  have h5 : (cs.toList.drop f.offset).take 1 = [c] := by
    have hlt := (List.getElem?_eq_some_iff.1 hc).1
    rw [List.drop_eq_getElem_cons hlt]
    have := (List.getElem?_eq_some_iff.1 hc).2
    simp [this]
  rw [h5] at h4
  have hjn : j < xs.length := by
    have := (Array.getElem?_eq_some_iff.1 hj).1
    omega
  rw [List.getElem?_eq_getElem hjn] at h4
  exact ⟨_, n, h4⟩

theorem mix_slice {P : Program} {T e : TypeId} {ks : List CK} {k : Nat} (ht : P.underlying T = some (.slice e)) (hk : kindsK P k e = some ks) (hc : P.cellsOf e = ks.length) (h0 : ks.length ≠ 0) {H : Type} {enc : TypeId × Value → H} {w : World} {base base' : Nat} {held : Bool} {c : Value}
    (h : Cell.okWide P w .any base' T c ∧ ∃ x fuel, DataW.trod enc P w base (fun _ => true) held fuel T [c] = some x) : SlOk w ks c := by
  obtain ⟨hv, ⟨d, ps⟩, fuel, hf⟩ := h
  have hv2 : Value.okWide P w .any base' T c := by simp only [Value.okWide, ht]; exact hv
  obtain ⟨a, len, cap, rfl⟩ := okWide_slice ht hv2
  exact arg_slice ht hk hc h0 hv2 ⟨fuel, hf⟩
theorem mix_int {P : Program} {T : TypeId} {k : IntKind} (ht : P.underlying T = some (.int k)) {H : Type} {enc : TypeId × Value → H} {w : World} {base base' : Nat} {held : Bool} {c : Value}
    (h : Cell.okWide P w .any base' T c ∧ ∃ x fuel, DataW.trod enc P w base (fun _ => true) held fuel T [c] = some x) : ∃ n, c = .int k n ∧ k.min ≤ n ∧ n ≤ k.max := by
  obtain ⟨hv, x, fuel, hf⟩ := h
  obtain ⟨n, e, _, hw⟩ := DataW.trod_int ht hf
  obtain rfl := (List.cons.inj e).1
  exact ⟨n, rfl, has_of_wf hw⟩
theorem mix_bool {P : Program} {T : TypeId} (ht : P.underlying T = some .bool) {H : Type} {enc : TypeId × Value → H} {w : World} {base base' : Nat} {held : Bool} {c : Value}
    (h : Cell.okWide P w .any base' T c ∧ ∃ x fuel, DataW.trod enc P w base (fun _ => true) held fuel T [c] = some x) : ∃ b, c = .bool b := by
  obtain ⟨hv, x, fuel, hf⟩ := h
  obtain ⟨b, e, _⟩ := DataW.trod_bool ht hf
  obtain rfl := (List.cons.inj e).1
  exact ⟨b, rfl⟩

/-- A slice cell, laid into the evaluator's memory under the number n. -/
theorem mix_lay {ρ : Loc} {n : Nat} {w : World} {m : Mem} (hm : MRel ρ n w m) (hh : Held m) {ks : List CK} {v : Value} (h : SlOk w ks v) :
    ∃ (ρ' : Loc) (n' : Nat) (m' : Mem) (c : Cell), MRel ρ' n' w m' ∧ Held m' ∧ Le ρ n w ρ' n' w ∧ CRel ρ' n' w c v ∧ (∀ id, id < n → m' id = m id) ∧ n' = n + 1 ∧
      ((c = .sc (.slice none 0 0) ∧ v = .slice none 0 0) ∨ ∃ len cap vs, c = .sl n 0 len none ks.length ∧ len ≤ cap ∧ cap ≤ maxLen ∧ RowsOk ks cap vs ∧ m' n = some ⟨vs.map .sc, false⟩) := by
  rcases h with rfl | ⟨b, o, len, cap, vs, rfl, hb, hl, hm2, hr, hc⟩
  · have hmm : MRel ρ (n + 1) w m := by
      refine ⟨fun id bl h => by have := hm.lt id bl h; omega, hm.blk, fun id bl h i c hi => ?_, hm.soft, hm.apart⟩
      obtain ⟨x, h1, h2⟩ := hm.cells id bl h i c hi
      exact ⟨x, h1, CRel.mono ⟨by omega, fun _ _ => rfl, fun _ h => h⟩ _ _ h2⟩
    exact ⟨ρ, n + 1, m, .sc (.slice none 0 0), hmm, hh, ⟨by omega, fun _ _ => rfl, fun _ h => h⟩, by simp [CRel, Value.oneCell'], fun _ _ => rfl, rfl, Or.inl ⟨rfl, rfl⟩⟩
  · have hlen : vs.length = cap * ks.length := by
      have := hr.len
      simpa using this
    have hs := addSl (ρ := ρ) (n := n) (w := w) (len := len) (sz := ks.length) hl hlen hc
    exact ⟨atL ρ n b o, n + 1, _, .sl n 0 len none ks.length, addRow hm hh hb hr hc, held_upd hh n _, atL_le, hs, fun id hid => upd_ne _ _ (by omega), rfl, Or.inr ⟨len, cap, vs, rfl, hl, hm2, hr, upd_same _ _ _⟩⟩

/- Styles as_ arguments; the row StyleChecks. Conditions: those that each theorem names. -/
open Go Go.Proofs
open Go.RowKit Go.ChangeShapes Go.WideShapes Go.Deep
set_option linter.unusedVariables false

/-- A struct, by its cells and by its fields. -/
theorem arg_fields {P : Program} {T : TypeId} {fs : Array Field} {ts : List TypeId} (ht : P.underlying T = some (.struct fs)) (hts : P.cellTypes P.depth T = some ts) {H : Type} {enc : TypeId × Value → H} {w : World} {base base' : Nat} {held : Bool} {v : Value} {d : DataW H} {ps : List MemPlace}
    (hv : Value.okWide P w .any base' T v) (h : DataW.Trod enc P w base (fun _ => true) held T v d ps) :
    ∃ cs : List Value, v = .agg cs.toArray ∧ cs.length = P.cellsOf T ∧ (∀ (i : Nat) (c : Value), cs[i]? = some c → ∃ u, ts[i % ts.length]? = some u ∧ Cell.okWide P w .any base' u c) ∧
      ∀ (j : Nat) (f : Field) (z : Nat) (l : List Value), fs[j]? = some f → P.cellsOf f.type = z → (cs.drop f.offset).take z = l → ∃ x n, DataW.trod enc P w base (fun _ => true) held n f.type l = some x := by
  simp only [Value.okWide, ht] at hv
  obtain ⟨cs, rfl, hsz, ts', h1, h2, h3⟩ := hv
  obtain rfl := Option.some.inj (hts.symm.trans h1)
  obtain ⟨fuel, hf⟩ := h
  have hf' : DataW.trod enc P w base (fun _ => true) held fuel T cs.toList = some (d, ps) := hf
  obtain ⟨xs, n, _, _, hl, hxs, hg⟩ := DataW.trod_struct ht hf'
  refine ⟨cs.toList, by simp, by simpa using hsz, fun i c hc => h3 i c (by simpa using hc), fun j f z l hj hz hl2 => ?_⟩
  subst hz
  subst hl2
  have h4 := hg j f hj
  have hjn : j < xs.length := by
    have := (Array.getElem?_eq_some_iff.1 hj).1
    omega
  rw [List.getElem?_eq_getElem hjn] at h4
  exact ⟨_, n, h4⟩
/-- A struct in a struct. -/
theorem sub_fields {P : Program} {T : TypeId} {fs : Array Field} (ht : P.underlying T = some (.struct fs)) {H : Type} {enc : TypeId × Value → H} {w : World} {base : Nat} {held : Bool} {cs : List Value} {n : Nat} {x : DataW H × List MemPlace}
    (h : DataW.trod enc P w base (fun _ => true) held n T cs = some x) : ∀ (j : Nat) (f : Field) (z : Nat) (l : List Value), fs[j]? = some f → P.cellsOf f.type = z → (cs.drop f.offset).take z = l → ∃ x n, DataW.trod enc P w base (fun _ => true) held n f.type l = some x := by
  obtain ⟨d, ps⟩ := x
  obtain ⟨xs, n, _, _, hl, hxs, hg⟩ := DataW.trod_struct ht h
  intro j f z l hj hz hl2
  subst hz
  subst hl2
  have h4 := hg j f hj
  have hjn : j < xs.length := by
    have := (Array.getElem?_eq_some_iff.1 hj).1
    omega
  rw [List.getElem?_eq_getElem hjn] at h4
  exact ⟨_, n, h4⟩
theorem ints_of {cap : Nat} {vs : List Value} (h : RowsOk [.int .i64] cap vs) : ∃ l : List Int, l.length = cap ∧ vs.map .sc = l.flatMap encI ∧ ∀ x ∈ l, -9223372036854775808 ≤ x ∧ x ≤ 9223372036854775807 := by
  unfold RowsOk at h
  induction cap generalizing vs with
  | zero => simp only [List.replicate_zero, List.flatten_nil, CksOk] at h; subst h; exact ⟨[], rfl, rfl, by simp⟩
  | succ k ih =>
    rw [List.replicate_succ, List.flatten_cons] at h
    simp only [List.cons_append, List.nil_append, CksOk] at h
    obtain ⟨n, r, rfl, h1, h2⟩ := h
    obtain ⟨l, e1, e2, e3⟩ := ih h2
    simp only [IntKind.min, IntKind.max, IntKind.signed, IntKind.bits] at h1
    refine ⟨n :: l, by simp [e1], by simp [e2], fun x hx => ?_⟩
    rcases List.mem_cons.1 hx with rfl | hx
    · simp at h1; omega
    · exact e3 x hx
/-- A slice of ints, laid: it is read. -/
theorem ints_rl {m : Mem} {n : Nat} {c : Cell} {v : Value} (h : (c = .sc (.slice none 0 0) ∧ v = .slice none 0 0) ∨ ∃ len cap vs, c = .sl n 0 len none [CK.int .i64].length ∧ len ≤ cap ∧ cap ≤ maxLen ∧ RowsOk [.int .i64] cap vs ∧ m n = some ⟨vs.map .sc, false⟩) :
    ∃ l : List Int, RIn m (n + 1) (.one c) l ∧ ∀ x ∈ l, -9223372036854775808 ≤ x ∧ x ≤ 9223372036854775807 := by
  rcases h with ⟨rfl, _⟩ | ⟨len, cap, vs, rfl, h1, _, h2, h3⟩
  · exact ⟨[], Or.inl ⟨rfl, rfl⟩, by simp⟩
  · obtain ⟨l, e1, e2, e3⟩ := ints_of h2
    have hlen : (l.take len).length = len := by rw [List.length_take]; omega
    refine ⟨l.take len, Or.inr ⟨n, 0, none, by rw [hlen]; rfl, by omega, ?_⟩, fun x hx => e3 x (List.mem_of_mem_take hx)⟩
    rw [rd_of h3, hlen, e2]
    have e4 : (l.flatMap encI).length = cap := by rw [flatMap_len encI 1 ci1, e1, Nat.mul_one]
    unfold rdB
    rw [if_pos (by rw [e4]; omega), List.drop_zero, Nat.mul_one]
    congr 1
    have : ∀ (l : List Int) (k : Nat), (l.flatMap encI).take k = (l.take k).flatMap encI := by
      intro l
      induction l with
      | nil => intro k; simp
      | cons x l ih =>
        intro k
        cases k with
        | zero => simp
        | succ k => simp [ih k]
    exact this l len
theorem stops_of {cap : Nat} {vs : List Value} (h : RowsOk [.int .i64, .int .u8, .int .u8, .int .u8, .int .u8] cap vs) : ∃ l : List Stp, l.length = cap ∧ vs.map .sc = l.flatMap Stp.cs ∧ ∀ x ∈ l, x.by := by
  unfold RowsOk at h
  induction cap generalizing vs with
  | zero => simp only [List.replicate_zero, List.flatten_nil, CksOk] at h; subst h; exact ⟨[], rfl, rfl, by simp⟩
  | succ k ih =>
    rw [List.replicate_succ, List.flatten_cons] at h
    simp only [List.cons_append, List.nil_append, CksOk] at h
    obtain ⟨n, r, rfl, h1, c0, r0, rfl, h2, c1, r1, rfl, h3, c2, r2, rfl, h4, c3, r3, rfl, h5, h6⟩ := h
    obtain ⟨l, e1, e2, e3⟩ := ih h6
    simp only [IntKind.min, IntKind.max, IntKind.signed, IntKind.bits] at h2 h3 h4 h5
    simp at h2 h3 h4 h5
    refine ⟨⟨n, c0, c1, c2, c3⟩ :: l, by simp [e1], by simp [e2], fun x hx => ?_⟩
    rcases List.mem_cons.1 hx with rfl | hx
    · unfold Stp.by byteB
      simp only
      omega
    · exact e3 x hx
theorem stops_rl {m : Mem} {n : Nat} {c : Cell} {v : Value} (h : (c = .sc (.slice none 0 0) ∧ v = .slice none 0 0) ∨ ∃ len cap vs, c = .sl n 0 len none [CK.int .i64, CK.int .u8, CK.int .u8, CK.int .u8, CK.int .u8].length ∧ len ≤ cap ∧ cap ≤ maxLen ∧ RowsOk [.int .i64, .int .u8, .int .u8, .int .u8, .int .u8] cap vs ∧ m n = some ⟨vs.map .sc, false⟩) :
    ∃ l : List Stp, RSt m (n + 1) (.one c) l ∧ ∀ x ∈ l, x.by := by
  rcases h with ⟨rfl, _⟩ | ⟨len, cap, vs, rfl, h1, _, h2, h3⟩
  · exact ⟨[], Or.inl ⟨rfl, rfl⟩, by simp⟩
  · obtain ⟨l, e1, e2, e3⟩ := stops_of h2
    have hlen : (l.take len).length = len := by rw [List.length_take]; omega
    refine ⟨l.take len, Or.inr ⟨n, 0, none, by rw [hlen]; rfl, by omega, ?_⟩, fun x hx => e3 x (List.mem_of_mem_take hx)⟩
    rw [rd_of h3, hlen, e2]
    have e4 : (l.flatMap Stp.cs).length = cap * 5 := by rw [flatMap_len Stp.cs 5 cs5, e1]
    unfold rdB
    rw [if_pos (by rw [e4]; omega), List.drop_zero]
    congr 1
    have : ∀ (l : List Stp) (k : Nat), (l.flatMap Stp.cs).take (k * 5) = (l.take k).flatMap Stp.cs := by
      intro l
      induction l with
      | nil => intro k; simp
      | cons x l ih =>
        intro k
        cases k with
        | zero => simp
        | succ k =>
          rw [show (k + 1) * 5 = k * 5 + 1 + 1 + 1 + 1 + 1 by omega]
          simp [ih k]
    exact this l len
/-- The cells of a style as_ values. -/
abbrev Sty.vs (s : Sty) (vf vp vd : Value) : List Value := [.int .i64 s.fill.k, .int .u8 s.fill.c0, .int .u8 s.fill.c1, .int .u8 s.fill.c2, .int .u8 s.fill.c3, .int .i64 s.fill.fx, .int .i64 s.fill.fy, .int .i64 s.fill.tx, .int .i64 s.fill.ty, vf,
  .int .i64 s.pen.k, .int .u8 s.pen.c0, .int .u8 s.pen.c1, .int .u8 s.pen.c2, .int .u8 s.pen.c3, .int .i64 s.pen.fx, .int .i64 s.pen.fy, .int .i64 s.pen.tx, .int .i64 s.pen.ty, vp, .int .i64 s.rule, .int .i64 s.half, .int .i64 s.cap, vd, .int .i64 s.ph, .int .i64 s.op, .int .i64 s.mode]
abbrev stK : List CK := [.int .i64, .int .u8, .int .u8, .int .u8, .int .u8]
def isSty (w : World) (v : Value) : Prop := ∃ (s : Sty) (vf vp vd : Value), v = .agg (s.vs vf vp vd).toArray ∧ (s.fill.by ∧ s.pen.by) ∧ SlOk w stK vf ∧ SlOk w stK vp ∧ SlOk w [.int .i64] vd
theorem pai_open {H : Type} {enc : TypeId × Value → H} {w : World} {base : Nat} {held : Bool} {n : Nat} {x : DataW H × List MemPlace} {a0 a1 a2 a3 a4 a5 a6 a7 a8 a9 : Value}
    (h : DataW.trod enc Try.prog w base (fun _ => true) held n 28 [a0, a1, a2, a3, a4, a5, a6, a7, a8, a9] = some x) :
    ∃ p : Pai, p.by ∧ (a0 = .int .i64 p.k ∧ a1 = .int .u8 p.c0 ∧ a2 = .int .u8 p.c1 ∧ a3 = .int .u8 p.c2 ∧ a4 = .int .u8 p.c3 ∧ a5 = .int .i64 p.fx ∧ a6 = .int .i64 p.fy ∧ a7 = .int .i64 p.tx ∧ a8 = .int .i64 p.ty) ∧
      ∃ y k, DataW.trod enc Try.prog w base (fun _ => true) held k 26 [a9] = some y := by
  have s0 := sub_fields Try.underlying28 h
  obtain ⟨u0, k0, t0⟩ := s0 0 _ 1 [a0] rfl (by kernel_rfl) rfl
  obtain ⟨u1, k1, t1⟩ := s0 1 _ 4 [a1, a2, a3, a4] rfl (by kernel_rfl) rfl
  obtain ⟨u2, k2, t2⟩ := s0 2 _ 2 [a5, a6] rfl (by kernel_rfl) rfl
  obtain ⟨u3, k3, t3⟩ := s0 3 _ 2 [a7, a8] rfl (by kernel_rfl) rfl
  obtain ⟨u4, k4, t4⟩ := s0 4 _ 1 [a9] rfl (by kernel_rfl) rfl
  have c0 := kindsK_ok (P := Try.prog) (k := 8) (ks := [.int .i64]) (by kernel_rfl) _ _ _ _ _ _ _ _ _ t0
  have c1 := kindsK_ok (P := Try.prog) (k := 8) (ks := [.int .u8, .int .u8, .int .u8, .int .u8]) (by kernel_rfl) _ _ _ _ _ _ _ _ _ t1
  have c2 := kindsK_ok (P := Try.prog) (k := 8) (ks := [.int .i64, .int .i64]) (by kernel_rfl) _ _ _ _ _ _ _ _ _ t2
  have c3 := kindsK_ok (P := Try.prog) (k := 8) (ks := [.int .i64, .int .i64]) (by kernel_rfl) _ _ _ _ _ _ _ _ _ t3
  simp only [CksOk] at c0 c1 c2 c3
  obtain ⟨q0, _, e0, _, _⟩ := c0
  obtain ⟨q1, _, e1, b1, q2, _, rfl, b2, q3, _, rfl, b3, q4, _, rfl, b4, rfl⟩ := c1
  obtain ⟨q5, _, e5, _, q6, _, rfl, _, rfl⟩ := c2
  obtain ⟨q7, _, e7, _, q8, _, rfl, _, rfl⟩ := c3
  simp only [List.cons.injEq, and_true] at e0 e1 e5 e7
  simp only [IntKind.min, IntKind.max, IntKind.signed, IntKind.bits] at b1 b2 b3 b4
  simp at b1 b2 b3 b4
  refine ⟨⟨q0, q1, q2, q3, q4, q5, q6, q7, q8, .sc (.slice none 0 0)⟩, ?_, ⟨e0.1, e1.1, e1.2.1, e1.2.2.1, e1.2.2.2, e5.1, e5.2, e7.1, e7.2⟩, u4, k4, t4⟩
  unfold Pai.by byteB
  simp only
  omega
set_option maxRecDepth 100000 in
theorem open53 {H : Type} {enc : TypeId × Value → H} {w : World} {base base' : Nat} {held : Bool} {v : Value} {d : DataW H} {ps : List MemPlace} (hv : Value.okWide Try.prog w .any base' 53 v) (h : DataW.Trod enc Try.prog w base (fun _ => true) held 53 v d ps) : isSty w v := by
  obtain ⟨cs, rfl, hl, hc, hf⟩ := arg_fields (ts := [3, 5, 5, 5, 5, 3, 3, 3, 3, 26, 3, 5, 5, 5, 5, 3, 3, 3, 3, 26, 3, 3, 3, 49, 3, 3, 3]) Try.underlying53 (by kernel_rfl) hv h
  rw [show Try.prog.cellsOf 53 = 27 by kernel_rfl] at hl
  match cs, hl with
  | [a0, a1, a2, a3, a4, a5, a6, a7, a8, a9, a10, a11, a12, a13, a14, a15, a16, a17, a18, a19, a20, a21, a22, a23, a24, a25, a26], _ =>
    obtain ⟨f0, n0, g0⟩ := hf 0 _ 10 [a0, a1, a2, a3, a4, a5, a6, a7, a8, a9] rfl (by kernel_rfl) rfl
    obtain ⟨f1, n1, g1⟩ := hf 1 _ 10 [a10, a11, a12, a13, a14, a15, a16, a17, a18, a19] rfl (by kernel_rfl) rfl
    obtain ⟨f2, n2, g2⟩ := hf 2 _ 1 [a20] rfl (by kernel_rfl) rfl
    obtain ⟨f3, n3, g3⟩ := hf 3 _ 1 [a21] rfl (by kernel_rfl) rfl
    obtain ⟨f4, n4, g4⟩ := hf 4 _ 1 [a22] rfl (by kernel_rfl) rfl
    obtain ⟨f5, n5, g5⟩ := hf 5 _ 2 [a23, a24] rfl (by kernel_rfl) rfl
    obtain ⟨f6, n6, g6⟩ := hf 6 _ 1 [a25] rfl (by kernel_rfl) rfl
    obtain ⟨f7, n7, g7⟩ := hf 7 _ 1 [a26] rfl (by kernel_rfl) rfl
    have s5 := sub_fields Try.underlying51 g5
    obtain ⟨u0, k0, t0⟩ := s5 0 _ 1 [a23] rfl (by kernel_rfl) rfl
    obtain ⟨u1, k1, t1⟩ := s5 1 _ 1 [a24] rfl (by kernel_rfl) rfl
    obtain ⟨p, hp, ⟨rfl, rfl, rfl, rfl, rfl, rfl, rfl, rfl, rfl⟩, y1, z1, w1⟩ := pai_open g0
    obtain ⟨q, hq, ⟨rfl, rfl, rfl, rfl, rfl, rfl, rfl, rfl, rfl⟩, y2, z2, w2⟩ := pai_open g1
    obtain ⟨v0, hv0, hw0⟩ := hc 9 a9 rfl
    obtain rfl : (26 : Nat) = v0 := Option.some.inj hv0
    obtain ⟨v1, hv1, hw1⟩ := hc 19 a19 rfl
    obtain rfl : (26 : Nat) = v1 := Option.some.inj hv1
    obtain ⟨v2, hv2, hw2⟩ := hc 23 a23 rfl
    obtain rfl : (49 : Nat) = v2 := Option.some.inj hv2
    have sf : SlOk w stK a9 := mix_slice (k := 8) Try.underlying26 (by kernel_rfl) (by kernel_rfl) (by decide) ⟨hw0, y1, z1, w1⟩
    have sp : SlOk w stK a19 := mix_slice (k := 8) Try.underlying26 (by kernel_rfl) (by kernel_rfl) (by decide) ⟨hw1, y2, z2, w2⟩
    have sd : SlOk w [.int .i64] a23 := mix_slice (k := 8) Try.underlying49 (by kernel_rfl) (by kernel_rfl) (by decide) ⟨hw2, u0, k0, t0⟩
    have int : ∀ (a : Value) (x : DataW H × List MemPlace) (k : Nat), DataW.trod enc Try.prog w base (fun _ => true) held k 3 [a] = some x → ∃ z, a = .int .i64 z := fun a x k hk => by
      obtain ⟨z, e, _, _⟩ := DataW.trod_int Try.underlying3 hk
      exact ⟨z, (List.cons.inj e).1⟩
    obtain ⟨i1, rfl⟩ := int _ _ _ g2
    obtain ⟨i2, rfl⟩ := int _ _ _ g3
    obtain ⟨i3, rfl⟩ := int _ _ _ g4
    obtain ⟨i4, rfl⟩ := int _ _ _ t1
    obtain ⟨i5, rfl⟩ := int _ _ _ g6
    obtain ⟨i6, rfl⟩ := int _ _ _ g7
    exact ⟨⟨p, q, i1, i2, i3, .sc (.slice none 0 0), i4, i5, i6⟩, a9, a19, a23, rfl, ⟨hp, hq⟩, sf, sp, sd⟩
/-- A style, laid. -/
theorem sty_lay {W : World} {v : Value} (h : isSty W v) : ∃ (s : Sty) (lf lp : List Stp) (ld : List Int) (ρ : Loc) (m : Mem), MRel ρ 3 W m ∧ Held m ∧ SRel m 3 s lf lp ld ∧ (s.fill.by ∧ s.pen.by) ∧ (∀ x ∈ lf, x.by) ∧ (∀ x ∈ lp, x.by) ∧ RRel ρ 3 W (.agg s.cs) v := by
  obtain ⟨s, vf, vp, vd, rfl, ⟨hf, hp⟩, sf, sp, sd⟩ := h
  obtain ⟨ρ1, n1, m1, cf, hm1, hh1, le1, hc1, old1, rfl, k1⟩ := mix_lay (noMem (fun _ => (0, 0)) 0 W) held_none sf
  obtain ⟨ρ2, n2, m2, cp, hm2, hh2, le2, hc2, old2, rfl, k2⟩ := mix_lay hm1 hh1 sp
  obtain ⟨ρ3, n3, m3, cd, hm3, hh3, le3, hc3, old3, rfl, k3⟩ := mix_lay hm2 hh2 sd
  obtain ⟨lf, r1, b1⟩ := stops_rl k1
  obtain ⟨lp, r2, b2⟩ := stops_rl k2
  obtain ⟨ld, r3, _⟩ := ints_rl k3
  have hf' : (Pai.mk s.fill.k s.fill.c0 s.fill.c1 s.fill.c2 s.fill.c3 s.fill.fx s.fill.fy s.fill.tx s.fill.ty cf).by := hf
  have hp' : (Pai.mk s.pen.k s.pen.c0 s.pen.c1 s.pen.c2 s.pen.c3 s.pen.fx s.pen.fy s.pen.tx s.pen.ty cp).by := hp
  have x1 := CRel.mono le3 _ _ (CRel.mono le2 _ _ hc1)
  have x2 := CRel.mono le3 _ _ hc2
  refine ⟨⟨⟨s.fill.k, s.fill.c0, s.fill.c1, s.fill.c2, s.fill.c3, s.fill.fx, s.fill.fy, s.fill.tx, s.fill.ty, cf⟩, ⟨s.pen.k, s.pen.c0, s.pen.c1, s.pen.c2, s.pen.c3, s.pen.fx, s.pen.fy, s.pen.tx, s.pen.ty, cp⟩, s.rule, s.half, s.cap, cd, s.ph, s.op, s.mode⟩, lf, lp, ld, ρ3, m3, hm3, hh3,
    ⟨r1.keep (by omega) (fun id hid => by rw [old3 id (by omega), old2 id (by omega)]), r2.keep (by omega) (fun id hid => by rw [old3 id (by omega)]), r3⟩, ⟨hf', hp'⟩, b1, b2, _, rfl, ?_⟩
  refine ⟨_, _, rfl, ⟨rfl, rfl⟩, _, _, rfl, ⟨rfl, rfl⟩, _, _, rfl, ⟨rfl, rfl⟩, _, _, rfl, ⟨rfl, rfl⟩, _, _, rfl, ⟨rfl, rfl⟩, _, _, rfl, ⟨rfl, rfl⟩, _, _, rfl, ⟨rfl, rfl⟩, _, _, rfl, ⟨rfl, rfl⟩, _, _, rfl, ⟨rfl, rfl⟩, _, _, rfl, x1,
    _, _, rfl, ⟨rfl, rfl⟩, _, _, rfl, ⟨rfl, rfl⟩, _, _, rfl, ⟨rfl, rfl⟩, _, _, rfl, ⟨rfl, rfl⟩, _, _, rfl, ⟨rfl, rfl⟩, _, _, rfl, ⟨rfl, rfl⟩, _, _, rfl, ⟨rfl, rfl⟩, _, _, rfl, ⟨rfl, rfl⟩, _, _, rfl, ⟨rfl, rfl⟩, _, _, rfl, x2,
    _, _, rfl, ⟨rfl, rfl⟩, _, _, rfl, ⟨rfl, rfl⟩, _, _, rfl, ⟨rfl, rfl⟩, _, _, rfl, hc3, _, _, rfl, ⟨rfl, rfl⟩, _, _, rfl, ⟨rfl, rfl⟩, _, _, rfl, ⟨rfl, rfl⟩, rfl⟩
theorem rowL6 (hmix : Try.prog.follows .mixedOrders = true) (W : World) (v : Value) (h : isSty W v) :
    Calls Try.prog 6 #[v] W (fun e w' => e = .returned (.bool true) ∧ Go.RowKit.Below W.heap.size W w') := by
  obtain ⟨s, lf, lp, ld, ρ, m, hm, hh, hS, ⟨hf, hp⟩, b1, b2, hr⟩ := sty_lay h
  exact law_calls (ng := 0) (ρ := ρ) (n := 3) hmix TA_ok (law6 s lf lp ld m 3 hS hf hp b1 b2) hm (fun _ h => by omega) ⟨_, _, rfl, hr, rfl⟩ hh

/- The row StyleEquals. Conditions: those that each theorem names. -/
open Go Go.Proofs
open Go.RowKit Go.ChangeShapes Go.WideShapes Go.Deep
set_option linter.unusedVariables false

theorem rowL5 (hmix : Try.prog.follows .mixedOrders = true) (W : World) (v : Value) (h : isSty W v) (k : Int) (hk : IntKind.i64.min ≤ k ∧ k ≤ IntKind.i64.max) :
    Calls Try.prog 5 #[v, .int .i64 k] W (fun e w' => e = .returned (.bool true) ∧ Go.RowKit.Below W.heap.size W w') := by
  obtain ⟨s, lf, lp, ld, ρ, m, hm, hh, hS, ⟨hf, hp⟩, b1, b2, hr⟩ := sty_lay h
  exact law_calls (ng := 0) (ρ := ρ) (n := 3) hmix TA_ok (law5 s lf lp ld k m 3 hS) hm (fun _ h => by omega) ⟨_, _, rfl, hr, _, _, rfl, ⟨rfl, rfl⟩, rfl⟩ hh

end Go.Proofs.Ytffhhgcgnillaaa.Sy
