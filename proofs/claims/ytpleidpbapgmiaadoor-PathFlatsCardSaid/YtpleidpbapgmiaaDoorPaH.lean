/- Matrices: right; what they make of a point. Conditions: those that each theorem names. -/
import Derived.Test.YtpleidpbapgmiaaDoorPaG
namespace Go.Proofs.YtpleidpbapgmiaaDoor.Sy
open Go Go.Proofs
set_option linter.unusedSimpArgs false
set_option linter.unusedVariables false
set_option maxRecDepth 20000
attribute [local go_sem] XK_seq XK_block XK_skip XK_exit XK_ret XK_cond XK_reg XK_dreg XK_ureg KN_seq KN_blk KN_lp KN_chk KN_chku KN_top KN_fin KX_seq KX_lp KX_blk KX_chk KX_top KR_seq KR_blk KR_lp KR_chk KR_top KR_fin FK_true FK_false RK_nil RK_mv RK_pick RK_alloc RK_box RK_build RK_bslice RK_load1 RK_loadA RK_store RK_nilchk RK_bin RK_beq RK_eqv RK_eqnil RK_un RK_conv RK_mkfn RK_mkslice RK_slS RK_slA RK_fadr RK_fld RK_iadrA RK_iadrS RK_idxA RK_ext RK_lenC RK_cap RK_app RK_appz RK_cpy RK_mn RK_mx RK_len RK_carry RK_clr carryR um0 um1 ThenK_some RK_guard GK_tt GK_ff GK_tf GK_ft GK_none QK_some RK_callQ RK_callZ RK_callT TK_some VK_clo RK_callV
  evalOp evO evOs upd_at unfrz_at putE_some putE_none boolOf_b boolOf_tup Option.map_some evRes pack_one pack_two pack_three pack_none List.getD_cons_zero List.getD_cons_succ getD_nil
  Option.some.injEq exists_eq_left' Reg.cs? fillC setL List.set_cons_zero List.set_cons_succ List.length_cons List.length_nil rd_upd rd_updn rdB wr List.drop_zero List.drop_succ_cons List.take_succ_cons List.take_zero List.getElem?_cons_zero List.getElem?_cons_succ
  ix Int.toNat_zero lenO_sl lenO_nil nadd na_eq na_eq' na_lt na_ee na_ll na_ne na_ne' na_tt
attribute [local go_sem] Reg.flat_one Reg.flat_agg Reg.flat_tup flats_nil flats_cons Cell.flat_sc Cell.flat_ptr List.all_cons List.all_nil disOk safeOk safeR decide_eq_true_eq decide_eq_false_iff_not
  List.map_cons List.map_nil List.cons_append List.nil_append List.append_nil evalOp.capsOf Bool.false_bne Bool.bne_false Bool.true_bne Bool.bne_true bne_self_eq_false beq_self_eq_true Bool.not_not Bool.false_and Bool.and_false Bool.true_or Bool.or_true beq_iff_eq eqCells
  Bool.true_beq Bool.false_beq Bool.not_eq_true' Bool.not_eq_eq_eq_not Bool.not_eq_false' and_false false_and frz_at idOf noId Option.isSome_some Bool.and_eq_true
attribute [local go_sem] wr_eq bV_add bV_sub bV_mul bV_eql bV_neq bV_lss bV_leq bV_gtr bV_geq bV_quo bV_rem bV_shr bV_shl uV_not uV_neg wrapU bits_and bits_or bits_xor IntKind.bits Nat.min_eq_left Nat.min_eq_right Nat.min_self
attribute [local go_sem] bne_iff_ne Int.cast_ofNat_Int Nat.zero_add Nat.add_zero and_self and_true true_and ne_eq not_false_eq_true not_true_eq_false decide_true decide_false Bool.false_eq_true Bool.not_true Bool.not_false Bool.true_and Bool.and_true Bool.or_false Bool.false_or Bool.and_self

structure Mx where
  a : Int
  b : Int
  c : Int
  d : Int
  e : Int
  f : Int
abbrev Mx.cs (m : Mx) : List Cell := [I m.a, I m.b, I m.c, I m.d, I m.e, I m.f]
def stB (x : Int) : Bool := !decide (x < -16777216) && !decide (16777216 < x)
def rightM (m : Mx) : Bool := stB m.a && (stB m.b && (stB m.c && (stB m.d && (rm m.e && rm m.f))))
theorem v_mRight (M : Mx) (m : Mem) (n : Nat) : callF TA 24 [.agg M.cs] m n = some (RB (rightM M)) := by
  refine callF_of (Fn_ofK (fn := F24) rfl (by simp [F24]) ?_)
  have v1 := v_fIn M.e
  have v2 := v_fIn M.f
  try simp only [r24_0, r24_1, r24_2, r24_3, r24_4, r24_5, r24_6, r24_7, c24, F24, l24_0, XK_loop, v1, v2, go_sem, Int.reduceTMod, Int.reduceTDiv, Int.reduceDiv, Int.reduceMod, Int.reduceAdd, Int.reduceSub, Int.reduceMul, Int.reduceNeg, Int.reducePow, Int.reduceEq, ↓reduceIte, Nat.reduceEqDiff, Nat.reduceAdd, Nat.reduceMul, Nat.reduceLeDiff, Nat.reduceSub, Nat.reduceLT, Int.reduceToNat, Int.reduceLT, Int.reduceLE, reduceCtorEq]
  repeat' ((first | refine FK_split (fun h_ => ?_) (fun h_ => ?_) | refine GK_split (fun h_ => ?_) (fun h_ => ?_) | refine ite_both (fun h_ => ?_) (fun h_ => ?_)) <;> (try simp only [decide_eq_true_eq, decide_eq_false_iff_not, Bool.not_true, Bool.not_false, Bool.not_eq_true', Bool.not_eq_false', Bool.not_eq_eq_eq_not, Decidable.not_not] at h_) <;> (try simp only [r24_0, r24_1, r24_2, r24_3, r24_4, r24_5, r24_6, r24_7, c24, F24, l24_0, XK_loop, v1, v2, h_, go_sem, Int.reduceTMod, Int.reduceTDiv, Int.reduceDiv, Int.reduceMod, Int.reduceAdd, Int.reduceSub, Int.reduceMul, Int.reduceNeg, Int.reducePow, Int.reduceEq, ↓reduceIte, Nat.reduceEqDiff, Nat.reduceAdd, Nat.reduceMul, Nat.reduceLeDiff, Nat.reduceSub, Nat.reduceLT, Int.reduceToNat, Int.reduceLT, Int.reduceLE, reduceCtorEq]))
  all_goals simp [rightM, stB, *]
def mixW (a x b y : Int) : Int := IntKind.i64.wrap (IntKind.i64.wrap (IntKind.i64.wrap (a * x) + IntKind.i64.wrap (b * y)) + 32768) / 65536
theorem v_mix (a x b y : Int) (m : Mem) (n : Nat) : callF TA 50 [RI a, RI x, RI b, RI y] m n = some (RI (mixW a x b y)) := by
  refine callF_of (Fn_ofK (fn := F50) rfl (by simp [F50]) ?_)
  try simp only [r50_0, r50_1, c50, F50, mixW, go_sem, Int.reduceTMod, Int.reduceTDiv, Int.reduceDiv, Int.reduceMod, Int.reduceAdd, Int.reduceSub, Int.reduceMul, Int.reduceNeg, Int.reducePow, Int.reduceEq, ↓reduceIte, Nat.reduceEqDiff, Nat.reduceAdd, Nat.reduceMul, Nat.reduceLeDiff, Nat.reduceSub, Nat.reduceLT, Int.reduceToNat, Int.reduceLT, Int.reduceLE, reduceCtorEq]
  repeat' ((first | refine FK_split (fun h_ => ?_) (fun h_ => ?_) | refine GK_split (fun h_ => ?_) (fun h_ => ?_) | refine ite_both (fun h_ => ?_) (fun h_ => ?_)) <;> (try simp only [decide_eq_true_eq, decide_eq_false_iff_not, Bool.not_true, Bool.not_false, Bool.not_eq_true', Bool.not_eq_false', Bool.not_eq_eq_eq_not, Decidable.not_not] at h_) <;> (try simp only [r50_0, r50_1, c50, F50, mixW, h_, go_sem, Int.reduceTMod, Int.reduceTDiv, Int.reduceDiv, Int.reduceMod, Int.reduceAdd, Int.reduceSub, Int.reduceMul, Int.reduceNeg, Int.reducePow, Int.reduceEq, ↓reduceIte, Nat.reduceEqDiff, Nat.reduceAdd, Nat.reduceMul, Nat.reduceLeDiff, Nat.reduceSub, Nat.reduceLT, Int.reduceToNat, Int.reduceLT, Int.reduceLE, reduceCtorEq]))
def apQ (M : Mx) (p : Pt) : Pt := ⟨IntKind.i64.wrap (mixW M.a p.x M.c p.y + M.e), IntKind.i64.wrap (mixW M.b p.x M.d p.y + M.f)⟩
def apOk (M : Mx) (p : Pt) : Bool := rightM M && (inP p && inP (apQ M p))
def apP (M : Mx) (p : Pt) : Pt := if apOk M p = true then apQ M p else ⟨0, 0⟩
def apE (M : Mx) (p : Pt) : Int := if apOk M p = true then 0 else 10
theorem v_mApply (M : Mx) (p : Pt) (m : Mem) (n : Nat) : callF TA 25 [.agg M.cs, .agg [I p.x, I p.y]] m n = some (.tup [.agg [I (apP M p).x, I (apP M p).y], RI (apE M p)]) := by
  refine callF_of (Fn_ofK (fn := F25) rfl (by simp [F25]) ?_)
  have v1 := v_mRight M
  cases hr : rightM M
  · have e1 : apOk M p = false := by simp [apOk, hr]
    have e2 : apP M p = ⟨0, 0⟩ := by simp [apP, e1]
    have e3 : apE M p = 10 := by simp [apE, e1]
    rw [hr] at v1
    try simp only [r25_0, r25_1, r25_2, r25_3, r25_4, r25_5, r25_6, c25, F25, v1, e2, e3, go_sem, Int.reduceTMod, Int.reduceTDiv, Int.reduceDiv, Int.reduceMod, Int.reduceAdd, Int.reduceSub, Int.reduceMul, Int.reduceNeg, Int.reducePow, Int.reduceEq, ↓reduceIte, Nat.reduceEqDiff, Nat.reduceAdd, Nat.reduceMul, Nat.reduceLeDiff, Nat.reduceSub, Nat.reduceLT, Int.reduceToNat, Int.reduceLT, Int.reduceLE, reduceCtorEq]
    repeat' ((first | refine FK_split (fun h_ => ?_) (fun h_ => ?_) | refine GK_split (fun h_ => ?_) (fun h_ => ?_) | refine ite_both (fun h_ => ?_) (fun h_ => ?_)) <;> (try simp only [decide_eq_true_eq, decide_eq_false_iff_not, Bool.not_true, Bool.not_false, Bool.not_eq_true', Bool.not_eq_false', Bool.not_eq_eq_eq_not, Decidable.not_not] at h_) <;> (try simp only [r25_0, r25_1, r25_2, r25_3, r25_4, r25_5, r25_6, c25, F25, v1, e2, e3, h_, go_sem, Int.reduceTMod, Int.reduceTDiv, Int.reduceDiv, Int.reduceMod, Int.reduceAdd, Int.reduceSub, Int.reduceMul, Int.reduceNeg, Int.reducePow, Int.reduceEq, ↓reduceIte, Nat.reduceEqDiff, Nat.reduceAdd, Nat.reduceMul, Nat.reduceLeDiff, Nat.reduceSub, Nat.reduceLT, Int.reduceToNat, Int.reduceLT, Int.reduceLE, reduceCtorEq]))
  · rw [hr] at v1
    cases hp : inP ⟨p.x, p.y⟩
    · have e1 : apOk M p = false := by simp [apOk, show inP p = false from hp]
      have e2 : apP M p = ⟨0, 0⟩ := by simp [apP, e1]
      have e3 : apE M p = 10 := by simp [apE, e1]
      try simp only [r25_0, r25_1, r25_2, r25_3, r25_4, r25_5, r25_6, c25, F25, v1, v_PIn, hp, e2, e3, go_sem, Int.reduceTMod, Int.reduceTDiv, Int.reduceDiv, Int.reduceMod, Int.reduceAdd, Int.reduceSub, Int.reduceMul, Int.reduceNeg, Int.reducePow, Int.reduceEq, ↓reduceIte, Nat.reduceEqDiff, Nat.reduceAdd, Nat.reduceMul, Nat.reduceLeDiff, Nat.reduceSub, Nat.reduceLT, Int.reduceToNat, Int.reduceLT, Int.reduceLE, reduceCtorEq]
      repeat' ((first | refine FK_split (fun h_ => ?_) (fun h_ => ?_) | refine GK_split (fun h_ => ?_) (fun h_ => ?_) | refine ite_both (fun h_ => ?_) (fun h_ => ?_)) <;> (try simp only [decide_eq_true_eq, decide_eq_false_iff_not, Bool.not_true, Bool.not_false, Bool.not_eq_true', Bool.not_eq_false', Bool.not_eq_eq_eq_not, Decidable.not_not] at h_) <;> (try simp only [r25_0, r25_1, r25_2, r25_3, r25_4, r25_5, r25_6, c25, F25, v1, v_PIn, hp, e2, e3, h_, go_sem, Int.reduceTMod, Int.reduceTDiv, Int.reduceDiv, Int.reduceMod, Int.reduceAdd, Int.reduceSub, Int.reduceMul, Int.reduceNeg, Int.reducePow, Int.reduceEq, ↓reduceIte, Nat.reduceEqDiff, Nat.reduceAdd, Nat.reduceMul, Nat.reduceLeDiff, Nat.reduceSub, Nat.reduceLT, Int.reduceToNat, Int.reduceLT, Int.reduceLE, reduceCtorEq]))
    · have vq := v_PIn (apQ M p).x (apQ M p).y
      cases hq : inP (apQ M p)
      · have e1 : apOk M p = false := by simp [apOk, hq]
        have e2 : apP M p = ⟨0, 0⟩ := by simp [apP, e1]
        have e3 : apE M p = 10 := by simp [apE, e1]
        have vq' : ∀ m n, callF TA 40 [.agg [I (IntKind.i64.wrap (mixW M.a p.x M.c p.y + M.e)), I (IntKind.i64.wrap (mixW M.b p.x M.d p.y + M.f))]] m n = some (RB false) := fun m n => (vq m n).trans (by rw [show inP ⟨(apQ M p).x, (apQ M p).y⟩ = false from hq])
        have vp : ∀ m n, callF TA 40 [.agg [I p.x, I p.y]] m n = some (RB true) := fun m n => (v_PIn p.x p.y m n).trans (by rw [hp])
        try simp only [r25_0, r25_1, r25_2, r25_3, r25_4, r25_5, r25_6, c25, F25, v1, vp, v_mix, vq', e2, e3, go_sem, Int.reduceTMod, Int.reduceTDiv, Int.reduceDiv, Int.reduceMod, Int.reduceAdd, Int.reduceSub, Int.reduceMul, Int.reduceNeg, Int.reducePow, Int.reduceEq, ↓reduceIte, Nat.reduceEqDiff, Nat.reduceAdd, Nat.reduceMul, Nat.reduceLeDiff, Nat.reduceSub, Nat.reduceLT, Int.reduceToNat, Int.reduceLT, Int.reduceLE, reduceCtorEq]
        repeat' ((first | refine FK_split (fun h_ => ?_) (fun h_ => ?_) | refine GK_split (fun h_ => ?_) (fun h_ => ?_) | refine ite_both (fun h_ => ?_) (fun h_ => ?_)) <;> (try simp only [decide_eq_true_eq, decide_eq_false_iff_not, Bool.not_true, Bool.not_false, Bool.not_eq_true', Bool.not_eq_false', Bool.not_eq_eq_eq_not, Decidable.not_not] at h_) <;> (try simp only [r25_0, r25_1, r25_2, r25_3, r25_4, r25_5, r25_6, c25, F25, v1, vp, v_mix, vq', e2, e3, h_, go_sem, Int.reduceTMod, Int.reduceTDiv, Int.reduceDiv, Int.reduceMod, Int.reduceAdd, Int.reduceSub, Int.reduceMul, Int.reduceNeg, Int.reducePow, Int.reduceEq, ↓reduceIte, Nat.reduceEqDiff, Nat.reduceAdd, Nat.reduceMul, Nat.reduceLeDiff, Nat.reduceSub, Nat.reduceLT, Int.reduceToNat, Int.reduceLT, Int.reduceLE, reduceCtorEq]))
      · have e1 : apOk M p = true := by simp [apOk, hq, hr, show inP p = true from hp]
        have e2 : apP M p = apQ M p := by simp [apP, e1]
        have e3 : apE M p = 0 := by simp [apE, e1]
        have vq' : ∀ m n, callF TA 40 [.agg [I (IntKind.i64.wrap (mixW M.a p.x M.c p.y + M.e)), I (IntKind.i64.wrap (mixW M.b p.x M.d p.y + M.f))]] m n = some (RB true) := fun m n => (vq m n).trans (by rw [show inP ⟨(apQ M p).x, (apQ M p).y⟩ = true from hq])
        have vp : ∀ m n, callF TA 40 [.agg [I p.x, I p.y]] m n = some (RB true) := fun m n => (v_PIn p.x p.y m n).trans (by rw [hp])
        have e4 : (apQ M p).x = IntKind.i64.wrap (mixW M.a p.x M.c p.y + M.e) := rfl
        have e5 : (apQ M p).y = IntKind.i64.wrap (mixW M.b p.x M.d p.y + M.f) := rfl
        try simp only [r25_0, r25_1, r25_2, r25_3, r25_4, r25_5, r25_6, c25, F25, v1, vp, v_mix, vq', e2, e3, e4, e5, go_sem, Int.reduceTMod, Int.reduceTDiv, Int.reduceDiv, Int.reduceMod, Int.reduceAdd, Int.reduceSub, Int.reduceMul, Int.reduceNeg, Int.reducePow, Int.reduceEq, ↓reduceIte, Nat.reduceEqDiff, Nat.reduceAdd, Nat.reduceMul, Nat.reduceLeDiff, Nat.reduceSub, Nat.reduceLT, Int.reduceToNat, Int.reduceLT, Int.reduceLE, reduceCtorEq]
        repeat' ((first | refine FK_split (fun h_ => ?_) (fun h_ => ?_) | refine GK_split (fun h_ => ?_) (fun h_ => ?_) | refine ite_both (fun h_ => ?_) (fun h_ => ?_)) <;> (try simp only [decide_eq_true_eq, decide_eq_false_iff_not, Bool.not_true, Bool.not_false, Bool.not_eq_true', Bool.not_eq_false', Bool.not_eq_eq_eq_not, Decidable.not_not] at h_) <;> (try simp only [r25_0, r25_1, r25_2, r25_3, r25_4, r25_5, r25_6, c25, F25, v1, vp, v_mix, vq', e2, e3, e4, e5, h_, go_sem, Int.reduceTMod, Int.reduceTDiv, Int.reduceDiv, Int.reduceMod, Int.reduceAdd, Int.reduceSub, Int.reduceMul, Int.reduceNeg, Int.reducePow, Int.reduceEq, ↓reduceIte, Nat.reduceEqDiff, Nat.reduceAdd, Nat.reduceMul, Nat.reduceLeDiff, Nat.reduceSub, Nat.reduceLT, Int.reduceToNat, Int.reduceLT, Int.reduceLE, reduceCtorEq]))
theorem flat_set {α : Type} {enc : α → List Cell} {sz : Nat} (hsz : ∀ x, (enc x).length = sz) : ∀ {l : List α} {i t : Nat} {s s' : α} {c : Cell}, l[i]? = some s → t < sz → enc s' = (enc s).set t c → (l.flatMap enc).set (i * sz + t) c = (l.set i s').flatMap enc
  | [], i, t, s, s', c, h, _, _ => by simp at h
  | x :: l, 0, t, s, s', c, h, ht, he => by
    simp only [List.getElem?_cons_zero, Option.some.injEq] at h
    subst h
    simp only [List.flatMap_cons, Nat.zero_mul, Nat.zero_add, List.set_cons_zero]
    rw [List.set_append_left _ _ (by rw [hsz]; exact ht), he]
  | x :: l, i + 1, t, s, s', c, h, ht, he => by
    simp only [List.flatMap_cons, List.set_cons_succ]
    rw [List.set_append_right _ _ (by rw [hsz, Nat.add_mul, Nat.one_mul]; omega), hsz, show (i + 1) * sz + t - sz = i * sz + t by rw [Nat.add_mul, Nat.one_mul]; omega,
      flat_set hsz (l := l) (i := i) (by simpa using h) ht he]
/-- The points that a path needs. -/
def ptsN (l : List Sg) : List Pt := l.flatMap fun s => s.pts.take (need s.k).toNat
theorem ptsN_snoc {l : List Sg} {i : Nat} {s : Sg} (h : l[i]? = some s) : ptsN (l.take (i + 1)) = ptsN (l.take i) ++ s.pts.take (need s.k).toNat := by
  rw [take_snoc h]
  simp [ptsN]
theorem need_bd (k : Int) : 0 ≤ need k ∧ need k ≤ 3 := by unfold need; split <;> (try split) <;> (try split) <;> omega
theorem ptsN_len (l : List Sg) : (ptsN l).length ≤ 3 * l.length := by
  induction l with
  | nil => simp [ptsN]
  | cons s l ih =>
    have h : (s.pts.take (need s.k).toNat).length ≤ 3 := by rw [List.length_take]; have : s.pts.length = 3 := rfl; omega
    simp only [ptsN, List.flatMap_cons, List.length_append, List.length_cons] at ih ⊢
    omega
theorem pts_row {m : Mem} {n sb off : Nat} {b : Blk} {s : Sg} (hb : m sb = some b) (hn : sb < n) (hc : (b.cells.drop off).take 7 = s.cs) (hl : off + 7 ≤ b.cells.length) : RPt m n (.one (.sl sb (off + 1) (need s.k).toNat (some 3) 2)) (s.pts.take (need s.k).toNat) := by
  have hnb := need_bd s.k
  have e3 : (s.pts.take (need s.k).toNat).length = (need s.k).toNat := by rw [List.length_take]; have : s.pts.length = 3 := rfl; omega
  refine Or.inr ⟨sb, off + 1, some 3, by rw [e3], hn, ?_⟩
  rw [rd_of hb, e3]
  unfold rdB
  rw [if_pos (by omega)]
  have h1 : (b.cells.drop (off + 1)).take 6 = s.cs.drop 1 := by
    rw [← hc, List.drop_take, List.drop_drop]
  have h2 : ∀ j, j ≤ 3 → (b.cells.drop (off + 1)).take (j * 2) = (s.cs.drop 1).take (j * 2) := fun j hj => by
    rw [← h1, List.take_take]
    congr 1
    omega
  rw [h2 _ (by omega)]
  have h3 : (need s.k).toNat = 0 ∨ (need s.k).toNat = 1 ∨ (need s.k).toNat = 2 ∨ (need s.k).toNat = 3 := by omega
  rcases h3 with h | h | h | h <;> rw [h] <;> rfl
theorem RK_pts {d : Option Nat} {xs : List O} {os : List SOper} {e : Nat → Reg} {M : Mem} {N sb off : Nat} {K : Kt} {b : Blk} {k : Int} {o : Bool} (hx : evOs e xs = [.one (.ptr sb off)]) (h0 : M 0 = some ⟨needC, o⟩) (hb : M sb = some b) (hk : b.cells[off]? = some (I k)) (hl : off + 7 ≤ b.cells.length)
    (next : ∀ M1, (∀ id, id < N → M1 id = M id) → RK TA os (putE e d (.one (.sl sb (off + 1) (need k).toNat (some 3) 2))) M1 N K) : RK TA (⟨d, .call .k 35 xs, none⟩ :: os) e M N K := by
  refine RK_callk ?_
  rw [hx]
  refine (w_points (off := off) (k := k) (b := ⟨b.cells, false⟩) (o := false) (by rw [frz_at, h0]; rfl) (by rw [frz_at, hb]; rfl) hk hl).mono ?_
  rintro r2 m2 n2 ⟨e1, e2, e3⟩
  rw [e1, e2, e3, Nat.max_self]
  exact next _ (fun id hid => by rw [unfrz_at, if_pos hid])
set_option maxHeartbeats 1000000 in
theorem v_PBound {r : Reg} {l : List Sg} {m : Mem} {n : Nat} {o : Bool} (hr : RSg m n r l) (h0 : m 0 = some ⟨needC, o⟩) (hn : 0 < n) (hl : l.length ≤ 1000000) (hi : (ptsN l).all inP = true) : callF TA 26 [r] m n = some (bndL (ptsN l)).r := by
  refine callF_of (Fn_ofK (fn := F26) rfl (by simp [F26]) ?_)
  have hlen := hr.len
  try simp only [r26_0, r26_1, r26_2, r26_3, r26_4, r26_5, r26_6, r26_7, c26, F26, hlen, go_sem, Int.reduceTMod, Int.reduceTDiv, Int.reduceDiv, Int.reduceMod, Int.reduceAdd, Int.reduceSub, Int.reduceMul, Int.reduceNeg, Int.reducePow, Int.reduceEq, ↓reduceIte, Nat.reduceEqDiff, Nat.reduceAdd, Nat.reduceMul, Nat.reduceLeDiff, Nat.reduceSub, Nat.reduceLT, Int.reduceToNat, Int.reduceLT, Int.reduceLE, reduceCtorEq]
  repeat' ((first | refine FK_split (fun h_ => ?_) (fun h_ => ?_) | refine GK_split (fun h_ => ?_) (fun h_ => ?_) | refine ite_both (fun h_ => ?_) (fun h_ => ?_)) <;> (try simp only [decide_eq_true_eq, decide_eq_false_iff_not, Bool.not_true, Bool.not_false, Bool.not_eq_true', Bool.not_eq_false', Bool.not_eq_eq_eq_not, Decidable.not_not] at h_) <;> (try simp only [r26_0, r26_1, r26_2, r26_3, r26_4, r26_5, r26_6, r26_7, c26, F26, hlen, h_, go_sem, Int.reduceTMod, Int.reduceTDiv, Int.reduceDiv, Int.reduceMod, Int.reduceAdd, Int.reduceSub, Int.reduceMul, Int.reduceNeg, Int.reducePow, Int.reduceEq, ↓reduceIte, Nat.reduceEqDiff, Nat.reduceAdd, Nat.reduceMul, Nat.reduceLeDiff, Nat.reduceSub, Nat.reduceLT, Int.reduceToNat, Int.reduceLT, Int.reduceLE, reduceCtorEq]))
  refine XK_iter (inv := fun i s => s.e 8 = RI i ∧ s.e 7 = RI l.length ∧ s.e 6 = r ∧ s.e 2 = .one (.ptr n 0) ∧ n + 1 ≤ s.n ∧ (∀ id, id < n → s.m id = m id) ∧ s.m n = some ⟨[I 0, I 0, I 0, I 0], true⟩ ∧ OL Pt.cs 2 (n + 1) s.m s.n (s.e 3) (ptsN (l.take i))) l.length
    (fun L _ => ⟨fun i hi' s hs next => ?_, fun s hs => ?_⟩) 0 (by omega) _ ?_
  · obtain ⟨e, M, N⟩ := s
    obtain ⟨q8, q7, q6, q2, qn, qm, qb, qo⟩ := hs
    simp only at q8 q7 q6 q2 qn qm qb qo
    have hp : l[i]? = some l[i] := List.getElem?_eq_getElem hi'
    obtain ⟨id, off, cap, hr1, hid, hrd⟩ := (hr.keep (show n ≤ N by omega) qm).at cs7 hp
    have hsn := ptsN_snoc hp
    have hpl := ptsN_len (l.take i)
    rw [List.length_take] at hpl
    generalize l[i] = p at *
    have c2 : ((i : Int) < (l.length : Int)) = True := eq_true (by omega)
    have c3 : (0 ≤ (i : Int)) = True := eq_true (by omega)
    have c7 : IntKind.i64.wrap ((i : Int) + 1) = ((i + 1 : Nat) : Int) := wr_nat (by omega)
    have q6' := q6
    rw [hr1] at q6'
    have hbM : upd (upd M N (some ⟨[I 0, I 0, I 0, I 0, I 0, I 0, I 0], true⟩)) N (some ⟨p.cs, true⟩) = upd M N (some ⟨p.cs, true⟩) := by rw [upd_upd]
    have hnN : (0 = N) = False := eq_false (by omega)
    try simp only [r26_0, r26_1, r26_2, r26_3, r26_4, r26_5, r26_6, r26_7, c26, F26, l26_0, q8, q7, q6', c2, c3, hrd, Int.toNat_natCast, go_sem, Int.reduceTMod, Int.reduceTDiv, Int.reduceDiv, Int.reduceMod, Int.reduceAdd, Int.reduceSub, Int.reduceMul, Int.reduceNeg, Int.reducePow, Int.reduceEq, ↓reduceIte, Nat.reduceEqDiff, Nat.reduceAdd, Nat.reduceMul, Nat.reduceLeDiff, Nat.reduceSub, Nat.reduceLT, Int.reduceToNat, Int.reduceLT, Int.reduceLE, reduceCtorEq]
    repeat' ((first | refine FK_split (fun h_ => ?_) (fun h_ => ?_) | refine GK_split (fun h_ => ?_) (fun h_ => ?_) | refine ite_both (fun h_ => ?_) (fun h_ => ?_)) <;> (try simp only [decide_eq_true_eq, decide_eq_false_iff_not, Bool.not_true, Bool.not_false, Bool.not_eq_true', Bool.not_eq_false', Bool.not_eq_eq_eq_not, Decidable.not_not] at h_) <;> (try simp only [r26_0, r26_1, r26_2, r26_3, r26_4, r26_5, r26_6, r26_7, c26, F26, l26_0, q8, q7, q6', c2, c3, hrd, Int.toNat_natCast, h_, go_sem, Int.reduceTMod, Int.reduceTDiv, Int.reduceDiv, Int.reduceMod, Int.reduceAdd, Int.reduceSub, Int.reduceMul, Int.reduceNeg, Int.reducePow, Int.reduceEq, ↓reduceIte, Nat.reduceEqDiff, Nat.reduceAdd, Nat.reduceMul, Nat.reduceLeDiff, Nat.reduceSub, Nat.reduceLT, Int.reduceToNat, Int.reduceLT, Int.reduceLE, reduceCtorEq]))
    refine RK_pts (o := o) (b := ⟨p.cs, true⟩) (k := p.k) rfl (by simp only [hnN, if_false, go_sem, Int.reduceTMod, Int.reduceTDiv, Int.reduceDiv, Int.reduceMod, Int.reduceAdd, Int.reduceSub, Int.reduceMul, Int.reduceNeg, Int.reducePow, Int.reduceEq, ↓reduceIte, Nat.reduceEqDiff, Nat.reduceAdd, Nat.reduceMul, Nat.reduceLeDiff, Nat.reduceSub, Nat.reduceLT, Int.reduceToNat, Int.reduceLT, Int.reduceLE, reduceCtorEq]; rw [qm 0 hn, h0]) (by simp only [go_sem, Int.reduceTMod, Int.reduceTDiv, Int.reduceDiv, Int.reduceMod, Int.reduceAdd, Int.reduceSub, Int.reduceMul, Int.reduceNeg, Int.reducePow, Int.reduceEq, ↓reduceIte, Nat.reduceEqDiff, Nat.reduceAdd, Nat.reduceMul, Nat.reduceLeDiff, Nat.reduceSub, Nat.reduceLT, Int.reduceToNat, Int.reduceLT, Int.reduceLE, reduceCtorEq]) rfl (by simp) ?_
    intro M1 hM1
    have hf1 : ∀ id, id < N → M1 id = M id := fun id hid => by
      have z : (id = N) = False := eq_false (by omega)
      rw [hM1 id (by omega)]
      simp only [z, if_false, go_sem, Int.reduceTMod, Int.reduceTDiv, Int.reduceDiv, Int.reduceMod, Int.reduceAdd, Int.reduceSub, Int.reduceMul, Int.reduceNeg, Int.reducePow, Int.reduceEq, ↓reduceIte, Nat.reduceEqDiff, Nat.reduceAdd, Nat.reduceMul, Nat.reduceLeDiff, Nat.reduceSub, Nat.reduceLT, Int.reduceToNat, Int.reduceLT, Int.reduceLE, reduceCtorEq]
    have hb1 : M1 N = some ⟨p.cs, true⟩ := by
      rw [hM1 N (by omega)]
      simp only [go_sem, Int.reduceTMod, Int.reduceTDiv, Int.reduceDiv, Int.reduceMod, Int.reduceAdd, Int.reduceSub, Int.reduceMul, Int.reduceNeg, Int.reducePow, Int.reduceEq, ↓reduceIte, Nat.reduceEqDiff, Nat.reduceAdd, Nat.reduceMul, Nat.reduceLeDiff, Nat.reduceSub, Nat.reduceLT, Int.reduceToNat, Int.reduceLT, Int.reduceLE, reduceCtorEq]
    have hpr : RPt M1 (N + 1) (.one (.sl N (0 + 1) (need p.k).toNat (some 3) 2)) (p.pts.take (need p.k).toNat) := pts_row (s := p) hb1 (by omega) rfl (by simp)
    rw [Nat.zero_add] at hpr
    have hml := need_bd p.k
    try simp only [r26_0, r26_1, r26_2, r26_3, r26_4, r26_5, r26_6, r26_7, c26, F26, go_sem, Int.reduceTMod, Int.reduceTDiv, Int.reduceDiv, Int.reduceMod, Int.reduceAdd, Int.reduceSub, Int.reduceMul, Int.reduceNeg, Int.reducePow, Int.reduceEq, ↓reduceIte, Nat.reduceEqDiff, Nat.reduceAdd, Nat.reduceMul, Nat.reduceLeDiff, Nat.reduceSub, Nat.reduceLT, Int.reduceToNat, Int.reduceLT, Int.reduceLE, reduceCtorEq]
    repeat' ((first | refine FK_split (fun h_ => ?_) (fun h_ => ?_) | refine GK_split (fun h_ => ?_) (fun h_ => ?_) | refine ite_both (fun h_ => ?_) (fun h_ => ?_)) <;> (try simp only [decide_eq_true_eq, decide_eq_false_iff_not, Bool.not_true, Bool.not_false, Bool.not_eq_true', Bool.not_eq_false', Bool.not_eq_eq_eq_not, Decidable.not_not] at h_) <;> (try simp only [r26_0, r26_1, r26_2, r26_3, r26_4, r26_5, r26_6, r26_7, c26, F26, h_, go_sem, Int.reduceTMod, Int.reduceTDiv, Int.reduceDiv, Int.reduceMod, Int.reduceAdd, Int.reduceSub, Int.reduceMul, Int.reduceNeg, Int.reducePow, Int.reduceEq, ↓reduceIte, Nat.reduceEqDiff, Nat.reduceAdd, Nat.reduceMul, Nat.reduceLeDiff, Nat.reduceSub, Nat.reduceLT, Int.reduceToNat, Int.reduceLT, Int.reduceLE, reduceCtorEq]))
    refine K_catL cs2 qo (by omega) (fun id h1 h2 => hf1 id h2) hpr (by rw [List.length_take]; have : p.pts.length = 3 := rfl; omega) (by omega) ?_
    intro r' m' n' hn' ho' hf'
    have hf2 : ∀ id, id < n + 1 → m' id = M id := fun id hid => by
      rw [hf' id (by omega) (fun h => by have := qo.sidge h; omega), hf1 id (by omega)]
    try simp only [r26_0, r26_1, r26_2, r26_3, r26_4, r26_5, r26_6, r26_7, c26, F26, q8, c7, go_sem, Int.reduceTMod, Int.reduceTDiv, Int.reduceDiv, Int.reduceMod, Int.reduceAdd, Int.reduceSub, Int.reduceMul, Int.reduceNeg, Int.reducePow, Int.reduceEq, ↓reduceIte, Nat.reduceEqDiff, Nat.reduceAdd, Nat.reduceMul, Nat.reduceLeDiff, Nat.reduceSub, Nat.reduceLT, Int.reduceToNat, Int.reduceLT, Int.reduceLE, reduceCtorEq]
    repeat' ((first | refine FK_split (fun h_ => ?_) (fun h_ => ?_) | refine GK_split (fun h_ => ?_) (fun h_ => ?_) | refine ite_both (fun h_ => ?_) (fun h_ => ?_)) <;> (try simp only [decide_eq_true_eq, decide_eq_false_iff_not, Bool.not_true, Bool.not_false, Bool.not_eq_true', Bool.not_eq_false', Bool.not_eq_eq_eq_not, Decidable.not_not] at h_) <;> (try simp only [r26_0, r26_1, r26_2, r26_3, r26_4, r26_5, r26_6, r26_7, c26, F26, q8, c7, h_, go_sem, Int.reduceTMod, Int.reduceTDiv, Int.reduceDiv, Int.reduceMod, Int.reduceAdd, Int.reduceSub, Int.reduceMul, Int.reduceNeg, Int.reducePow, Int.reduceEq, ↓reduceIte, Nat.reduceEqDiff, Nat.reduceAdd, Nat.reduceMul, Nat.reduceLeDiff, Nat.reduceSub, Nat.reduceLT, Int.reduceToNat, Int.reduceLT, Int.reduceLE, reduceCtorEq]))
    refine next _ ⟨?_, ?_, ?_, ?_, ?_, ?_, ?_, ?_⟩
    · simp only [go_sem, Int.reduceTMod, Int.reduceTDiv, Int.reduceDiv, Int.reduceMod, Int.reduceAdd, Int.reduceSub, Int.reduceMul, Int.reduceNeg, Int.reducePow, Int.reduceEq, ↓reduceIte, Nat.reduceEqDiff, Nat.reduceAdd, Nat.reduceMul, Nat.reduceLeDiff, Nat.reduceSub, Nat.reduceLT, Int.reduceToNat, Int.reduceLT, Int.reduceLE, reduceCtorEq]
    · simp only [q7, go_sem, Int.reduceTMod, Int.reduceTDiv, Int.reduceDiv, Int.reduceMod, Int.reduceAdd, Int.reduceSub, Int.reduceMul, Int.reduceNeg, Int.reducePow, Int.reduceEq, ↓reduceIte, Nat.reduceEqDiff, Nat.reduceAdd, Nat.reduceMul, Nat.reduceLeDiff, Nat.reduceSub, Nat.reduceLT, Int.reduceToNat, Int.reduceLT, Int.reduceLE, reduceCtorEq]
    · simp only [q6, go_sem, Int.reduceTMod, Int.reduceTDiv, Int.reduceDiv, Int.reduceMod, Int.reduceAdd, Int.reduceSub, Int.reduceMul, Int.reduceNeg, Int.reducePow, Int.reduceEq, ↓reduceIte, Nat.reduceEqDiff, Nat.reduceAdd, Nat.reduceMul, Nat.reduceLeDiff, Nat.reduceSub, Nat.reduceLT, Int.reduceToNat, Int.reduceLT, Int.reduceLE, reduceCtorEq]
    · simp only [q2, go_sem, Int.reduceTMod, Int.reduceTDiv, Int.reduceDiv, Int.reduceMod, Int.reduceAdd, Int.reduceSub, Int.reduceMul, Int.reduceNeg, Int.reducePow, Int.reduceEq, ↓reduceIte, Nat.reduceEqDiff, Nat.reduceAdd, Nat.reduceMul, Nat.reduceLeDiff, Nat.reduceSub, Nat.reduceLT, Int.reduceToNat, Int.reduceLT, Int.reduceLE, reduceCtorEq]
    · simp only; omega
    · intro id hid
      simp only
      rw [hf2 id (by omega), qm id hid]
    · simp only
      rw [hf2 n (by omega), qb]
    · simp only [go_sem, Int.reduceTMod, Int.reduceTDiv, Int.reduceDiv, Int.reduceMod, Int.reduceAdd, Int.reduceSub, Int.reduceMul, Int.reduceNeg, Int.reducePow, Int.reduceEq, ↓reduceIte, Nat.reduceEqDiff, Nat.reduceAdd, Nat.reduceMul, Nat.reduceLeDiff, Nat.reduceSub, Nat.reduceLT, Int.reduceToNat, Int.reduceLT, Int.reduceLE, reduceCtorEq]
      rw [hsn]
      exact ho'
  · obtain ⟨e, M, N⟩ := s
    obtain ⟨q8, q7, q6, q2, qn, qm, qb, qo⟩ := hs
    simp only at q8 q7 q6 q2 qn qm qb qo
    have c2 : ((l.length : Int) < (l.length : Int)) = False := eq_false (by omega)
    rw [List.take_length] at qo
    have hpl := ptsN_len l
    have v := v_Bound (e 3) (ptsN l) (frz M) N (qo.rl cs2).frz (by omega) hi
    try simp only [r26_0, r26_1, r26_2, r26_3, r26_4, r26_5, r26_6, r26_7, c26, F26, l26_0, q8, q7, c2, v, q2, qb, rd_of qb, go_sem, Int.reduceTMod, Int.reduceTDiv, Int.reduceDiv, Int.reduceMod, Int.reduceAdd, Int.reduceSub, Int.reduceMul, Int.reduceNeg, Int.reducePow, Int.reduceEq, ↓reduceIte, Nat.reduceEqDiff, Nat.reduceAdd, Nat.reduceMul, Nat.reduceLeDiff, Nat.reduceSub, Nat.reduceLT, Int.reduceToNat, Int.reduceLT, Int.reduceLE, reduceCtorEq]
    repeat' ((first | refine FK_split (fun h_ => ?_) (fun h_ => ?_) | refine GK_split (fun h_ => ?_) (fun h_ => ?_) | refine ite_both (fun h_ => ?_) (fun h_ => ?_)) <;> (try simp only [decide_eq_true_eq, decide_eq_false_iff_not, Bool.not_true, Bool.not_false, Bool.not_eq_true', Bool.not_eq_false', Bool.not_eq_eq_eq_not, Decidable.not_not] at h_) <;> (try simp only [r26_0, r26_1, r26_2, r26_3, r26_4, r26_5, r26_6, r26_7, c26, F26, l26_0, q8, q7, c2, v, q2, qb, rd_of qb, h_, go_sem, Int.reduceTMod, Int.reduceTDiv, Int.reduceDiv, Int.reduceMod, Int.reduceAdd, Int.reduceSub, Int.reduceMul, Int.reduceNeg, Int.reducePow, Int.reduceEq, ↓reduceIte, Nat.reduceEqDiff, Nat.reduceAdd, Nat.reduceMul, Nat.reduceLeDiff, Nat.reduceSub, Nat.reduceLT, Int.reduceToNat, Int.reduceLT, Int.reduceLE, reduceCtorEq]))
  · refine ⟨?_, ?_, ?_, ?_, ?_, ?_, ?_, ?_⟩
    · simp only [go_sem, Int.reduceTMod, Int.reduceTDiv, Int.reduceDiv, Int.reduceMod, Int.reduceAdd, Int.reduceSub, Int.reduceMul, Int.reduceNeg, Int.reducePow, Int.reduceEq, ↓reduceIte, Nat.reduceEqDiff, Nat.reduceAdd, Nat.reduceMul, Nat.reduceLeDiff, Nat.reduceSub, Nat.reduceLT, Int.reduceToNat, Int.reduceLT, Int.reduceLE, reduceCtorEq]
    · simp only [go_sem, Int.reduceTMod, Int.reduceTDiv, Int.reduceDiv, Int.reduceMod, Int.reduceAdd, Int.reduceSub, Int.reduceMul, Int.reduceNeg, Int.reducePow, Int.reduceEq, ↓reduceIte, Nat.reduceEqDiff, Nat.reduceAdd, Nat.reduceMul, Nat.reduceLeDiff, Nat.reduceSub, Nat.reduceLT, Int.reduceToNat, Int.reduceLT, Int.reduceLE, reduceCtorEq]
    · simp only [go_sem, Int.reduceTMod, Int.reduceTDiv, Int.reduceDiv, Int.reduceMod, Int.reduceAdd, Int.reduceSub, Int.reduceMul, Int.reduceNeg, Int.reducePow, Int.reduceEq, ↓reduceIte, Nat.reduceEqDiff, Nat.reduceAdd, Nat.reduceMul, Nat.reduceLeDiff, Nat.reduceSub, Nat.reduceLT, Int.reduceToNat, Int.reduceLT, Int.reduceLE, reduceCtorEq]
    · simp only [go_sem, Int.reduceTMod, Int.reduceTDiv, Int.reduceDiv, Int.reduceMod, Int.reduceAdd, Int.reduceSub, Int.reduceMul, Int.reduceNeg, Int.reducePow, Int.reduceEq, ↓reduceIte, Nat.reduceEqDiff, Nat.reduceAdd, Nat.reduceMul, Nat.reduceLeDiff, Nat.reduceSub, Nat.reduceLT, Int.reduceToNat, Int.reduceLT, Int.reduceLE, reduceCtorEq]
    · exact Nat.le_refl _
    · exact fun id hid => upd_ne _ _ (by omega)
    · simp only [go_sem, Int.reduceTMod, Int.reduceTDiv, Int.reduceDiv, Int.reduceMod, Int.reduceAdd, Int.reduceSub, Int.reduceMul, Int.reduceNeg, Int.reducePow, Int.reduceEq, ↓reduceIte, Nat.reduceEqDiff, Nat.reduceAdd, Nat.reduceMul, Nat.reduceLeDiff, Nat.reduceSub, Nat.reduceLT, Int.reduceToNat, Int.reduceLT, Int.reduceLE, reduceCtorEq]
    · simp only [List.take_zero, go_sem, Int.reduceTMod, Int.reduceTDiv, Int.reduceDiv, Int.reduceMod, Int.reduceAdd, Int.reduceSub, Int.reduceMul, Int.reduceNeg, Int.reducePow, Int.reduceEq, ↓reduceIte, Nat.reduceEqDiff, Nat.reduceAdd, Nat.reduceMul, Nat.reduceLeDiff, Nat.reduceSub, Nat.reduceLT, Int.reduceToNat, Int.reduceLT, Int.reduceLE, reduceCtorEq]
      exact OL.nil
end Go.Proofs.YtpleidpbapgmiaaDoor.Sy
