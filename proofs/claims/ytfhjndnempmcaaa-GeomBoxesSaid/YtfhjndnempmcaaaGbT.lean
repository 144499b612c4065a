/- Boxes (chapter 03): the law GeomBoxes walked. Conditions: those that each theorem names. -/
import Derived.Test.YtfhjndnempmcaaaGbP
import Derived.Test.YtfhjndnempmcaaaSyV
import Derived.Test.YtfhjndnempmcaaaSyQ
namespace Go.Proofs.Ytfhjndnempmcaaa.Sy
open Go Go.Proofs
set_option linter.unusedSimpArgs false
set_option linter.unusedVariables false
set_option maxRecDepth 20000
attribute [local go_sem] XK_seq XK_block XK_skip XK_exit XK_ret XK_cond XK_reg XK_dreg XK_ureg KN_seq KN_blk KN_lp KN_chk KN_chku KN_top KN_fin KX_seq KX_lp KX_blk KX_chk KX_top KR_seq KR_blk KR_lp KR_chk KR_top KR_fin FK_true FK_false RK_nil RK_mv RK_pick RK_alloc RK_box RK_build RK_bslice RK_load1 RK_loadA RK_store RK_nilchk RK_bin RK_beq RK_eqv RK_eqnil RK_un RK_conv RK_mkfn RK_mkslice RK_slS RK_slA RK_fadr RK_fld RK_iadrA RK_iadrS RK_idxA RK_ext RK_lenC RK_cap RK_app RK_cpy RK_mn RK_mx RK_len ThenK_some RK_guard GK_tt GK_ff GK_tf GK_ft GK_none QK_some RK_callQ RK_callZ VK_clo RK_callV
  evalOp evO evOs upd_at unfrz_at putE_some putE_none boolOf_b boolOf_tup Option.map_some evRes pack_one pack_two pack_three pack_none List.getD_cons_zero List.getD_cons_succ getD_nil
  Option.some.injEq exists_eq_left' Reg.cs? fillC setL List.set_cons_zero List.set_cons_succ List.length_cons List.length_nil rd_upd rdB wr List.drop_zero List.drop_succ_cons List.take_succ_cons List.take_zero List.getElem?_cons_zero List.getElem?_cons_succ
  ix Int.toNat_zero lenO_sl lenO_nil nadd na_eq na_eq' na_lt na_ee na_ll na_ne na_ne' na_tt
attribute [local go_sem] Reg.flat_one Reg.flat_agg Reg.flat_tup flats_nil flats_cons Cell.flat_sc Cell.flat_ptr List.all_cons List.all_nil disOk safeOk safeR decide_eq_true_eq decide_eq_false_iff_not
  List.map_cons List.map_nil List.cons_append List.nil_append List.append_nil evalOp.capsOf Bool.false_bne Bool.bne_false Bool.true_bne Bool.bne_true bne_self_eq_false beq_self_eq_true Bool.not_not Bool.false_and Bool.and_false Bool.true_or Bool.or_true beq_iff_eq eqCells
  Bool.true_beq Bool.false_beq Bool.not_eq_true' Bool.not_eq_eq_eq_not Bool.not_eq_false' and_false false_and frz_at idOf Option.isSome_some Bool.and_eq_true
attribute [local go_sem] wr_eq bV_add bV_sub bV_mul bV_eql bV_neq bV_lss bV_leq bV_gtr bV_geq bV_quo bV_rem bV_shr bV_shl uV_not uV_neg wrapU bits_and bits_or bits_xor IntKind.bits Nat.min_eq_left Nat.min_eq_right Nat.min_self

theorem v23 (a b c d : Int) (m : Mem) (n : Nat) : callF TA 23 [.agg [I a, I b, I c, I d]] m n = some (RB (Bx.mk a b c d).emp) := callF_of (Empty23 ⟨a, b, c, d⟩ m n)
theorem v22 (a b c d : Int) (m : Mem) (n : Nat) : callF TA 22 [.agg [I a, I b, I c, I d]] m n = some (RB (Bx.mk a b c d).emp) := callF_of (empty22 ⟨a, b, c, d⟩ m n)
theorem v15 (a b c d x y : Int) (m : Mem) (n : Nat) : callF TA 15 [.agg [I a, I b, I c, I d], .agg [I x, I y]] m n = some (RB ((Bx.mk a b c d).has ⟨x, y⟩)) := callF_of (Has15 ⟨a, b, c, d⟩ ⟨x, y⟩ m n)
theorem v19 (a b c d e f g h : Int) (m : Mem) (n : Nat) : callF TA 19 [.agg [I a, I b, I c, I d], .agg [I e, I f, I g, I h]] m n = some ((Bx.mk a b c d).meet ⟨e, f, g, h⟩).r := callF_of (Meet19 ⟨a, b, c, d⟩ ⟨e, f, g, h⟩ m n)
theorem v20 (a b c d e f g h : Int) (m : Mem) (n : Nat) : callF TA 20 [.agg [I a, I b, I c, I d], .agg [I e, I f, I g, I h]] m n = some ((Bx.mk a b c d).join ⟨e, f, g, h⟩).r := callF_of (Join20 ⟨a, b, c, d⟩ ⟨e, f, g, h⟩ m n)
theorem v21 (p : Pt) (id : Nat) (o : Bool) (a b c d : Int) (m : Mem) (n : Nat) (hid : id < n) (hm : m id = some ⟨p.cs, o⟩) : callF TA 21 [.agg [I a, I b, I c, I d], .one (.ptr id 0)] m n = some (RB ((Bx.mk a b c d).has p)) := callF_of (has21 ⟨a, b, c, d⟩ p id o m n hid hm)
theorem v10 : callF TA 10 [] (fun _ => none) 0 = some (RB true) := callF_closed (k := 60) (by kernel_rfl)
theorem Bx.eta (b : Bx) : Bx.mk b.x0 b.y0 b.x1 b.y1 = b := rfl
theorem Pt.eta (b : Pt) : Pt.mk b.x b.y = b := rfl
theorem has_ne {b : Bx} {p : Pt} (h : b.has p = true) : b.emp = false := by
  cases he : b.emp with
  | false => rfl
  | true =>
    rw [has_iff] at h
    rw [emp_iff] at he
    omega

set_option maxRecDepth 20000 in
set_option maxHeartbeats 4000000 in
theorem law7 (a b : Bx) (p : Pt) (m : Mem) (n : Nat) : Fn TA 7 [a.r, b.r, p.r] m n (fun r' _ _ => r' = RB true) := by
  refine Fn_ofK (fn := F7) rfl (by simp [F7]) ?_
  have h21 : ∀ (a b c d : Int) (m : Mem) (k : Nat), n + 2 < k → m (n + 2) = some ⟨[I p.x, I p.y], false⟩ → callF TA 21 [.agg [I a, I b, I c, I d], .one (.ptr (n + 2) 0)] m k = some (RB ((Bx.mk a b c d).has p)) := fun a b c d m k h1 h2 => v21 p _ false a b c d m k h1 h2
  have hf : ∀ {m' : Mem} {id : Nat}, frz m' id = (m' id).map fun b => ⟨b.cells, false⟩ := rfl
  have hmh := meet_has a b p
  have hbb := meet_comm b a
  have hjj := join_comm b a
  have hJ := join_has (b := a) (c := b) (p := p)
  obtain ⟨J, jE⟩ : ∃ J, J = a.join b := ⟨_, rfl⟩
  obtain ⟨M, mE⟩ : ∃ M, M = a.meet b := ⟨_, rfl⟩
  have hm0 := meet_emp (b := a) (c := b)
  rw [← mE] at hmh hbb hm0
  rw [← jE] at hjj hJ
  have jA := jE
  unfold Bx.join at jA
  cases hA : a.has p <;> cases hB : b.has p <;> cases eA : a.emp <;> cases eB : b.emp <;> cases eM : M.emp
  all_goals (try (have := has_ne hA; rw [eA] at this; cases this; done))
  all_goals (try (have := has_ne hB; rw [eB] at this; cases this; done))
  all_goals simp only [hA, hB, eA, eB, Bool.false_eq_true, true_or, or_true, or_self, true_imp_iff, false_imp_iff, false_and, and_false, if_false, if_true, and_self] at hJ jA
  all_goals (try (rw [eM] at hm0))
  all_goals (try simp only [Bool.false_eq_true, true_imp_iff, false_imp_iff] at hm0)
  all_goals (try subst hm0)
  all_goals (try subst jA)
  all_goals
    try simp only [F7, c7, r7_0, r7_1, r7_2, r7_3, r7_4, r7_5, r7_6, r7_7, r7_8, r7_9, r7_10, r7_11, r7_12, r7_13, r7_14, v10, v15, v19, v20, v22, v23, h21, hf, ← mE, ← jE, hmh, hbb, hjj, hA, hB, eA, eB, eM, hJ, Bx.eta, Pt.eta, minI_two, maxI_two, Bx.r, Pt.r, go_sem, Int.reduceAdd, Int.reduceSub, Int.reduceMul, Int.reduceNeg, Int.reducePow, Int.reduceEq, bne_iff_ne, Int.cast_ofNat_Int, ↓reduceIte, Nat.reduceEqDiff, Nat.reduceAdd, Nat.reduceMul, Nat.reduceLeDiff, Nat.reduceSub, Nat.reduceLT, Int.reduceToNat, Int.reduceLT, Int.reduceLE, reduceCtorEq, Nat.zero_add, Nat.add_zero, and_self, and_true, true_and, ne_eq, not_false_eq_true, not_true_eq_false, decide_true, decide_false, Bool.false_eq_true, Bool.not_true, Bool.not_false, Bool.true_and, Bool.and_true, Bool.or_false, Bool.false_or, Bool.and_self]
    repeat' (first | (refine FK_split (fun h_ => ?_) (fun h_ => ?_) <;> (try simp only [decide_eq_true_eq, decide_eq_false_iff_not, Bool.not_true, Bool.not_false, Bool.not_eq_true', Bool.not_eq_false', Bool.not_eq_eq_eq_not, Decidable.not_not] at h_) <;> (try simp only [F7, c7, r7_0, r7_1, r7_2, r7_3, r7_4, r7_5, r7_6, r7_7, r7_8, r7_9, r7_10, r7_11, r7_12, r7_13, r7_14, v10, v15, v19, v20, v22, v23, h21, hf, ← mE, ← jE, hmh, hbb, hjj, hA, hB, eA, eB, eM, hJ, Bx.eta, Pt.eta, minI_two, maxI_two, Bx.r, Pt.r, h_, go_sem, Int.reduceAdd, Int.reduceSub, Int.reduceMul, Int.reduceNeg, Int.reducePow, Int.reduceEq, bne_iff_ne, Int.cast_ofNat_Int, ↓reduceIte, Nat.reduceEqDiff, Nat.reduceAdd, Nat.reduceMul, Nat.reduceLeDiff, Nat.reduceSub, Nat.reduceLT, Int.reduceToNat, Int.reduceLT, Int.reduceLE, reduceCtorEq, Nat.zero_add, Nat.add_zero, and_self, and_true, true_and, ne_eq, not_false_eq_true, not_true_eq_false, decide_true, decide_false, Bool.false_eq_true, Bool.not_true, Bool.not_false, Bool.true_and, Bool.and_true, Bool.or_false, Bool.false_or, Bool.and_self])) | (refine GK_split (fun h_ => ?_) (fun h_ => ?_) <;> (try simp only [decide_eq_true_eq, decide_eq_false_iff_not, Bool.not_true, Bool.not_false, Bool.not_eq_true', Bool.not_eq_false', Bool.not_eq_eq_eq_not, Decidable.not_not] at h_) <;> (try simp only [F7, c7, r7_0, r7_1, r7_2, r7_3, r7_4, r7_5, r7_6, r7_7, r7_8, r7_9, r7_10, r7_11, r7_12, r7_13, r7_14, v10, v15, v19, v20, v22, v23, h21, hf, ← mE, ← jE, hmh, hbb, hjj, hA, hB, eA, eB, eM, hJ, Bx.eta, Pt.eta, minI_two, maxI_two, Bx.r, Pt.r, h_, go_sem, Int.reduceAdd, Int.reduceSub, Int.reduceMul, Int.reduceNeg, Int.reducePow, Int.reduceEq, bne_iff_ne, Int.cast_ofNat_Int, ↓reduceIte, Nat.reduceEqDiff, Nat.reduceAdd, Nat.reduceMul, Nat.reduceLeDiff, Nat.reduceSub, Nat.reduceLT, Int.reduceToNat, Int.reduceLT, Int.reduceLE, reduceCtorEq, Nat.zero_add, Nat.add_zero, and_self, and_true, true_and, ne_eq, not_false_eq_true, not_true_eq_false, decide_true, decide_false, Bool.false_eq_true, Bool.not_true, Bool.not_false, Bool.true_and, Bool.and_true, Bool.or_false, Bool.false_or, Bool.and_self])) | (refine ite_both (fun h_ => ?_) (fun h_ => ?_) <;> (try simp only [F7, c7, r7_0, r7_1, r7_2, r7_3, r7_4, r7_5, r7_6, r7_7, r7_8, r7_9, r7_10, r7_11, r7_12, r7_13, r7_14, v10, v15, v19, v20, v22, v23, h21, hf, ← mE, ← jE, hmh, hbb, hjj, hA, hB, eA, eB, eM, hJ, Bx.eta, Pt.eta, minI_two, maxI_two, Bx.r, Pt.r, h_, go_sem, Int.reduceAdd, Int.reduceSub, Int.reduceMul, Int.reduceNeg, Int.reducePow, Int.reduceEq, bne_iff_ne, Int.cast_ofNat_Int, ↓reduceIte, Nat.reduceEqDiff, Nat.reduceAdd, Nat.reduceMul, Nat.reduceLeDiff, Nat.reduceSub, Nat.reduceLT, Int.reduceToNat, Int.reduceLT, Int.reduceLE, reduceCtorEq, Nat.zero_add, Nat.add_zero, and_self, and_true, true_and, ne_eq, not_false_eq_true, not_true_eq_false, decide_true, decide_false, Bool.false_eq_true, Bool.not_true, Bool.not_false, Bool.true_and, Bool.and_true, Bool.or_false, Bool.false_or, Bool.and_self])))
theorem rowL7 (hmix : Try.prog.follows .mixedOrders = true) (W : World) (l0 : List Value) (h0 : CksOk [.int .i64, .int .i64, .int .i64, .int .i64] l0) (l1 : List Value) (h1 : CksOk [.int .i64, .int .i64, .int .i64, .int .i64] l1) (l2 : List Value) (h2 : CksOk [.int .i64, .int .i64] l2) :
    Calls Try.prog 7 #[.agg l0.toArray, .agg l1.toArray, .agg l2.toArray] W (fun e w' => e = .returned (.bool true) ∧ Go.RowKit.Below W.heap.size W w') := by
  have r0 := h0.rel (ρ := fun _ => (0, 0)) (n := 0) (w := W)
  have r1 := h1.rel (ρ := fun _ => (0, 0)) (n := 0) (w := W)
  have r2 := h2.rel (ρ := fun _ => (0, 0)) (n := 0) (w := W)
  obtain ⟨x0, _, rfl, _, y0, _, rfl, _, x1, _, rfl, _, y1, _, rfl, _, rfl⟩ := h0
  obtain ⟨u0, _, rfl, _, v0, _, rfl, _, u1, _, rfl, _, v1, _, rfl, _, rfl⟩ := h1
  obtain ⟨x, _, rfl, _, y, _, rfl, _, rfl⟩ := h2
  exact law_calls (ng := 0) (ρ := fun _ => (0, 0)) hmix TA_ok (law7 ⟨x0, y0, x1, y1⟩ ⟨u0, v0, u1, v1⟩ ⟨x, y⟩ _ 0) (noMem _ _ _) (fun _ h => by omega)
    ⟨_, _, rfl, ⟨_, rfl, r0⟩, _, _, rfl, ⟨_, rfl, r1⟩, _, _, rfl, ⟨_, rfl, r2⟩, rfl⟩ held_none
end Go.Proofs.Ytfhjndnempmcaaa.Sy
