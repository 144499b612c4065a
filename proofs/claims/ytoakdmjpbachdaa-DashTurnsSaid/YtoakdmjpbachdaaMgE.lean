import Derived.Test.YtoakdmjpbachdaaMgD
import Derived.ProofKit
import Derived.OpenShut
import Derived.Deep.Slices
/- Rows of points packed in place. Conditions: those that each theorem names. -/
namespace Go.Proofs.Ytoakdmjpbachdaa.Sy
open Go Go.Proofs
set_option linter.unusedSimpArgs false
set_option linter.unusedVariables false
set_option maxRecDepth 20000
attribute [local go_sem] XK_seq XK_block XK_skip XK_exit XK_ret XK_cond XK_reg XK_dreg XK_ureg KN_seq KN_blk KN_lp KN_chk KN_chku KN_top KN_fin KX_seq KX_lp KX_blk KX_chk KX_top KR_seq KR_blk KR_lp KR_chk KR_top KR_fin FK_true FK_false RK_nil RK_mv RK_pick RK_alloc RK_box RK_build RK_bslice RK_load1 RK_loadA RK_store RK_nilchk RK_bin RK_beq RK_eqv RK_eqnil RK_un RK_conv RK_mkfn RK_mkslice RK_slS RK_slA RK_fadr RK_fld RK_iadrA RK_iadrS RK_idxA RK_ext RK_lenC RK_cap RK_app RK_cpy RK_mn RK_mx RK_len RK_carry RK_clr carryR um0 um1 ThenK_some RK_guard GK_tt GK_ff GK_tf GK_ft GK_none QK_some RK_callQ RK_callZ VK_clo RK_callV
  evalOp evO evOs upd_at unfrz_at putE_some putE_none boolOf_b boolOf_tup Option.map_some evRes pack_one pack_two pack_three pack_none List.getD_cons_zero List.getD_cons_succ getD_nil
  Option.some.injEq exists_eq_left' Reg.cs? fillC setL List.set_cons_zero List.set_cons_succ List.length_cons List.length_nil rd_upd rd_updn rdB wr List.drop_zero List.drop_succ_cons List.take_succ_cons List.take_zero List.getElem?_cons_zero List.getElem?_cons_succ
  ix Int.toNat_zero lenO_sl lenO_nil nadd na_eq na_eq' na_lt na_ee na_ll na_ne na_ne' na_tt
attribute [local go_sem] Reg.flat_one Reg.flat_agg Reg.flat_tup flats_nil flats_cons Cell.flat_sc Cell.flat_ptr List.all_cons List.all_nil disOk safeOk safeR decide_eq_true_eq decide_eq_false_iff_not
  List.map_cons List.map_nil List.cons_append List.nil_append List.append_nil evalOp.capsOf Bool.false_bne Bool.bne_false Bool.true_bne Bool.bne_true bne_self_eq_false beq_self_eq_true Bool.not_not Bool.false_and Bool.and_false Bool.true_or Bool.or_true beq_iff_eq eqCells
  Bool.true_beq Bool.false_beq Bool.not_eq_true' Bool.not_eq_eq_eq_not Bool.not_eq_false' and_false false_and frz_at idOf noId Option.isSome_some Bool.and_eq_true
attribute [local go_sem] wr_eq bV_add bV_sub bV_mul bV_eql bV_neq bV_lss bV_leq bV_gtr bV_geq bV_quo bV_rem bV_shr bV_shl uV_not uV_neg wrapU bits_and bits_or bits_xor IntKind.bits Nat.min_eq_left Nat.min_eq_right Nat.min_self
attribute [local go_sem] bne_iff_ne Int.cast_ofNat_Int Nat.zero_add Nat.add_zero and_self and_true true_and ne_eq not_false_eq_true not_true_eq_false decide_true decide_false Bool.false_eq_true Bool.not_true Bool.not_false Bool.true_and Bool.and_true Bool.or_false Bool.false_or Bool.and_self

theorem setL_len' : ∀ (cs l : List Cell) (o : Nat), (setL l o cs).length = l.length
  | [], l, o => rfl
  | c :: cs, l, o => by rw [setL, setL_len' cs]; simp
theorem setL_take : ∀ (cs l : List Cell) (o k : Nat), k ≤ o → (setL l o cs).take k = l.take k
  | [], l, o, k, _ => rfl
  | c :: cs, l, o, k, h => by
    rw [setL, setL_take cs _ _ _ (by omega), List.take_set]
    exact List.set_eq_of_length_le (by rw [List.length_take]; omega)
theorem setL_mid (a t : List Cell) (x y u v : Cell) : setL (a ++ x :: y :: t) a.length [u, v] = a ++ u :: v :: t := by
  simp [setL]
theorem wr_pt {m : Mem} {id : Nat} {a t : List Pt} {x p : Pt} (h : m id = some ⟨(a ++ x :: t).flatMap Pt.cs, true⟩) : wr m id (a.length * 2) [I p.x, I p.y] = some (upd m id (some ⟨(a ++ p :: t).flatMap Pt.cs, true⟩)) := by
  have hl := flatMap_len Pt.cs 2 cs2 a
  have ht := flatMap_len Pt.cs 2 cs2 t
  unfold wr
  rw [h]
  simp only [List.flatMap_append, List.flatMap_cons]
  rw [if_pos]
  · rw [← hl]
    congr 3
    have := setL_mid (a.flatMap Pt.cs) (t.flatMap Pt.cs) (I x.x) (I x.y) (I p.x) (I p.y)
    simp only [Blk.mk.injEq, and_true]
    exact this
  · refine ⟨trivial, ?_⟩
    simp only [List.length_append, hl, ht, List.length_cons, List.length_nil]
    omega
theorem set_pt {a t : List Pt} {x p : Pt} : (((a ++ x :: t).flatMap Pt.cs).set (a.length * 2) (I p.x)).set (a.length * 2 + 1) (I p.y) = (a ++ p :: t).flatMap Pt.cs := by
  have hl := flatMap_len Pt.cs 2 cs2 a
  have := setL_mid (a.flatMap Pt.cs) (t.flatMap Pt.cs) (I x.x) (I x.y) (I p.x) (I p.y)
  rw [hl] at this
  simp only [List.flatMap_append, List.flatMap_cons]
  exact this
theorem rd_pt {m : Mem} {id : Nat} {c : List Pt} {j : Nat} {p : Pt} {o : Bool} (h : m id = some ⟨c.flatMap Pt.cs, o⟩) (hj : c[j]? = some p) : rd m id (j * 2) 2 = some p.cs := by
  have hl := flatMap_len Pt.cs 2 cs2 c
  have h3 : rd m id 0 (c.length * 2) = some (c.flatMap Pt.cs) := by
    rw [rd_of h]
    unfold rdB
    rw [if_pos (by rw [hl]; omega), List.drop_zero, ← hl, List.take_length]
  have := rd_at cs2 h3 hj
  rw [Nat.zero_add] at this
  exact this
theorem rd_front {m : Mem} {id : Nat} {a : List Pt} {c : List Cell} {o : Bool} (h : m id = some ⟨c, o⟩) (hc : c.take (a.length * 2) = a.flatMap Pt.cs) : rd m id 0 (a.length * 2) = some (a.flatMap Pt.cs) := by
  have hl := flatMap_len Pt.cs 2 cs2 a
  rw [rd_of h]
  unfold rdB
  have h2 : a.length * 2 ≤ c.length := by
    have := congrArg List.length hc
    rw [List.length_take, hl] at this
    omega
  rw [if_pos (by show 0 + a.length * 2 ≤ c.length; omega), List.drop_zero]
  exact congrArg some hc

theorem inR_nat {i h : Nat} (hi : i ≤ h) : inR (RI i) h = some i := by
  simp [inR, ix]
  omega
theorem bnds_lo {len i : Nat} (h : i ≤ len) : bnds len none (some (RI i)) none none = some (i, len, none) := by
  simp [bnds, bMax, bHigh, bLow, inR_nat h]
theorem bnds_hi {len i : Nat} (h : i ≤ len) : bnds len none none (some (RI i)) none = some (0, i, none) := by
  simp [bnds, bMax, bHigh, bLow, inR_nat h]

theorem w_Compact (id : Nat) (cap : Option Nat) (l : List Pt) (m : Mem) (n : Nat) (hid : id < n) (hm : m id = some ⟨l.flatMap Pt.cs, true⟩) (hcap : cap = none ∨ l = []) (hl : l.length < 4294967296) :
    Fn TA 35 [.one (.sl id 0 l.length cap 2)] m n (fun r' m' n' => PL id m' n' r' (pln l l.length) ∧ n' = n ∧ ∀ i, i ≠ id → m' i = m i) := by
  refine Fn_ofK (fn := F35) rfl (by simp [F35]) ?_
  have hfull : ∀ _ : Nat, pln l l.length = l → PL id m n (.one (.sl id 0 l.length cap 2)) (pln l l.length) := fun _ h => by
    rw [h]
    refine Or.inr ⟨id, cap, _, rfl, Nat.le_refl _, hid, hm, ?_, hcap⟩
    exact rd_front hm (by rw [← flatMap_len Pt.cs 2 cs2 l, List.take_length])
  by_cases h2 : l.length < 2
  · have h2' : ((l.length : Int) < 2) = True := eq_true (by omega)
    have e : pln l l.length = l := by
      match l, h2 with
      | [], _ => rfl
      | [p], _ => rfl
    have hf := hfull 0 e
    try simp only [r35_0, r35_1, r35_2, r35_3, r35_4, r35_6, r35_7, r35_8, r35_9, r35_11, r35_12, r35_13, r35_10, r35_14, r35_15, r35_5, r35_16, c35, F35, h2', go_sem, Int.reduceTMod, Int.reduceTDiv, Int.reduceDiv, Int.reduceMod, Int.reduceAdd, Int.reduceSub, Int.reduceMul, Int.reduceNeg, Int.reducePow, Int.reduceEq, ↓reduceIte, Nat.reduceEqDiff, Nat.reduceAdd, Nat.reduceMul, Nat.reduceLeDiff, Nat.reduceSub, Nat.reduceLT, Int.reduceToNat, Int.reduceLT, Int.reduceLE, reduceCtorEq]
    repeat' ((first | refine FK_split (fun h_ => ?_) (fun h_ => ?_) | refine GK_split (fun h_ => ?_) (fun h_ => ?_) | refine ite_both (fun h_ => ?_) (fun h_ => ?_)) <;> (try simp only [decide_eq_true_eq, decide_eq_false_iff_not, Bool.not_true, Bool.not_false, Bool.not_eq_true', Bool.not_eq_false', Bool.not_eq_eq_eq_not, Decidable.not_not] at h_) <;> (try simp only [r35_0, r35_1, r35_2, r35_3, r35_4, r35_6, r35_7, r35_8, r35_9, r35_11, r35_12, r35_13, r35_10, r35_14, r35_15, r35_5, r35_16, c35, F35, h2', h_, go_sem, Int.reduceTMod, Int.reduceTDiv, Int.reduceDiv, Int.reduceMod, Int.reduceAdd, Int.reduceSub, Int.reduceMul, Int.reduceNeg, Int.reducePow, Int.reduceEq, ↓reduceIte, Nat.reduceEqDiff, Nat.reduceAdd, Nat.reduceMul, Nat.reduceLeDiff, Nat.reduceSub, Nat.reduceLT, Int.reduceToNat, Int.reduceLT, Int.reduceLE, reduceCtorEq]))
    exact ⟨hf, fun _ _ => trivial⟩
  · have h2' : ((l.length : Int) < 2) = False := eq_false (by omega)
    obtain rfl : cap = none := hcap.resolve_right (fun h => h2 (by rw [h]; decide))
    try simp only [r35_0, r35_1, r35_2, r35_3, r35_4, r35_6, r35_7, r35_8, r35_9, r35_11, r35_12, r35_13, r35_10, r35_14, r35_15, r35_5, r35_16, c35, F35, h2', go_sem, Int.reduceTMod, Int.reduceTDiv, Int.reduceDiv, Int.reduceMod, Int.reduceAdd, Int.reduceSub, Int.reduceMul, Int.reduceNeg, Int.reducePow, Int.reduceEq, ↓reduceIte, Nat.reduceEqDiff, Nat.reduceAdd, Nat.reduceMul, Nat.reduceLeDiff, Nat.reduceSub, Nat.reduceLT, Int.reduceToNat, Int.reduceLT, Int.reduceLE, reduceCtorEq]
    repeat' ((first | refine FK_split (fun h_ => ?_) (fun h_ => ?_) | refine GK_split (fun h_ => ?_) (fun h_ => ?_) | refine ite_both (fun h_ => ?_) (fun h_ => ?_)) <;> (try simp only [decide_eq_true_eq, decide_eq_false_iff_not, Bool.not_true, Bool.not_false, Bool.not_eq_true', Bool.not_eq_false', Bool.not_eq_eq_eq_not, Decidable.not_not] at h_) <;> (try simp only [r35_0, r35_1, r35_2, r35_3, r35_4, r35_6, r35_7, r35_8, r35_9, r35_11, r35_12, r35_13, r35_10, r35_14, r35_15, r35_5, r35_16, c35, F35, h2', h_, go_sem, Int.reduceTMod, Int.reduceTDiv, Int.reduceDiv, Int.reduceMod, Int.reduceAdd, Int.reduceSub, Int.reduceMul, Int.reduceNeg, Int.reducePow, Int.reduceEq, ↓reduceIte, Nat.reduceEqDiff, Nat.reduceAdd, Nat.reduceMul, Nat.reduceLeDiff, Nat.reduceSub, Nat.reduceLT, Int.reduceToNat, Int.reduceLT, Int.reduceLE, reduceCtorEq]))
    refine XK_iter (inv := fun i s => s.e 3 = RI i ∧ s.e 0 = .one (.sl id 0 l.length none 2) ∧ s.m = m ∧ s.n = n ∧ 1 ≤ i ∧ pln l i = l.take i) l.length
      (fun L _ => ⟨fun i hi s hs next => ?_, fun s hs => ?_⟩) 1 (by omega) _ ?_
    · obtain ⟨e, M, N⟩ := s
      obtain ⟨q3, q0, qm, qn, q1, qp⟩ := hs
      simp only at q3 q0 qm qn q1 qp
      subst qm
      subst qn
      have hp : l[i]? = some l[i] := List.getElem?_eq_getElem hi
      have hp' : l[i - 1]? = some (l[i - 1]'(by omega)) := List.getElem?_eq_getElem (by omega)
      have hrd := rd_pt hm hp
      have hrd' := rd_pt hm hp'
      have c2 : ((i : Int) < (l.length : Int)) = True := eq_true (by omega)
      have c3 : (0 ≤ (i : Int)) = True := eq_true (by omega)
      have c5 : IntKind.i64.wrap ((i : Int) - 1) = ((i - 1 : Nat) : Int) := (wr_eq (by omega) (by omega)).trans (by omega)
      have c6 : (((i - 1 : Nat) : Int) < (l.length : Int)) = True := eq_true (by omega)
      have c7 : IntKind.i64.wrap ((i : Int) + 1) = ((i + 1 : Nat) : Int) := wr_nat (by omega)
      have c8 : (0 ≤ ((i - 1 : Nat) : Int)) = True := eq_true (by omega)
      by_cases e1 : l[i] = (l[i - 1]'(by omega))
      · have hk := pln_skip hp (by omega) (by rw [hp', e1])
        rw [qp] at hk
        have heb := pt_eb e1
        generalize hgp : l[i] = p at *
        generalize hgq : (l[i - 1]'(by omega)) = q at *
        have c9 : i ≤ l.length := by omega
        try simp only [r35_0, r35_1, r35_2, r35_3, r35_4, r35_6, r35_7, r35_8, r35_9, r35_11, r35_12, r35_13, r35_10, r35_14, r35_15, r35_5, r35_16, c35, F35, l35_0, l35_1, q3, q0, c2, c3, c5, c6, c7, c8, c9, hrd, hrd', heb, Int.toNat_natCast, bnds_lo c9, Option.map_none, Option.map_some, Nat.zero_add, go_sem, Int.reduceTMod, Int.reduceTDiv, Int.reduceDiv, Int.reduceMod, Int.reduceAdd, Int.reduceSub, Int.reduceMul, Int.reduceNeg, Int.reducePow, Int.reduceEq, ↓reduceIte, Nat.reduceEqDiff, Nat.reduceAdd, Nat.reduceMul, Nat.reduceLeDiff, Nat.reduceSub, Nat.reduceLT, Int.reduceToNat, Int.reduceLT, Int.reduceLE, reduceCtorEq]
        repeat' ((first | refine FK_split (fun h_ => ?_) (fun h_ => ?_) | refine GK_split (fun h_ => ?_) (fun h_ => ?_) | refine ite_both (fun h_ => ?_) (fun h_ => ?_)) <;> (try simp only [decide_eq_true_eq, decide_eq_false_iff_not, Bool.not_true, Bool.not_false, Bool.not_eq_true', Bool.not_eq_false', Bool.not_eq_eq_eq_not, Decidable.not_not] at h_) <;> (try simp only [r35_0, r35_1, r35_2, r35_3, r35_4, r35_6, r35_7, r35_8, r35_9, r35_11, r35_12, r35_13, r35_10, r35_14, r35_15, r35_5, r35_16, c35, F35, l35_0, l35_1, q3, q0, c2, c3, c5, c6, c7, c8, c9, hrd, hrd', heb, Int.toNat_natCast, bnds_lo c9, Option.map_none, Option.map_some, Nat.zero_add, h_, go_sem, Int.reduceTMod, Int.reduceTDiv, Int.reduceDiv, Int.reduceMod, Int.reduceAdd, Int.reduceSub, Int.reduceMul, Int.reduceNeg, Int.reducePow, Int.reduceEq, ↓reduceIte, Nat.reduceEqDiff, Nat.reduceAdd, Nat.reduceMul, Nat.reduceLeDiff, Nat.reduceSub, Nat.reduceLT, Int.reduceToNat, Int.reduceLT, Int.reduceLE, reduceCtorEq]))
        clear next hfull
        refine XK_iter (inv := fun k s => s.e 5 = RI k ∧ s.e 4 = .one (.sl id (i * 2) (l.length - i) none 2) ∧ s.e 0 = .one (.sl id 0 l.length none 2) ∧ s.n = N ∧ 1 ≤ k ∧ s.e 3 = RI (pln l (i + k)).length ∧ (pln l (i + k)).length < i + k ∧
            s.m id = some ⟨(pln l (i + k) ++ l.drop (pln l (i + k)).length).flatMap Pt.cs, true⟩ ∧ ∀ j, j ≠ id → s.m j = M j) (l.length - i)
          (fun L _ => ⟨fun k hkk s hs next => ?_, fun s hs => ?_⟩) 1 (by omega) _ ?_
        · obtain ⟨e', M', N'⟩ := s
          obtain ⟨t5, t4, t0, tn, t1, t3, tq, tm, tf⟩ := hs
          simp only at t5 t4 t0 tn t1 t3 tq tm tf
          subst tn
          have hj : i + k < l.length := by omega
          have hu : l[i + k]? = some l[i + k] := List.getElem?_eq_getElem hj
          have hv : l[i + k - 1]? = some (l[i + k - 1]'(by omega)) := List.getElem?_eq_getElem (by omega)
          have cu : (pln l (i + k) ++ l.drop (pln l (i + k)).length)[i + k]? = some l[i + k] := by
            rw [List.getElem?_append_right (by omega), List.getElem?_drop, show (pln l (i + k)).length + (i + k - (pln l (i + k)).length) = i + k by omega, hu]
          have cv : (pln l (i + k) ++ l.drop (pln l (i + k)).length)[i + k - 1]? = some (l[i + k - 1]'(by omega)) := by
            rw [List.getElem?_append_right (by omega), List.getElem?_drop, show (pln l (i + k)).length + (i + k - 1 - (pln l (i + k)).length) = i + k - 1 by omega, hv]
          have ru := rd_pt tm cu
          have rv := rd_pt tm cv
          rw [show (i + k) * 2 = i * 2 + k * 2 by omega] at ru
          rw [show (i + k - 1) * 2 = i * 2 + (k - 1) * 2 by omega] at rv
          have d2 : ((k : Int) < ((l.length - i : Nat) : Int)) = True := eq_true (by omega)
          have d3 : (0 ≤ (k : Int)) = True := eq_true (by omega)
          have d5 : IntKind.i64.wrap ((k : Int) - 1) = ((k - 1 : Nat) : Int) := (wr_eq (by omega) (by omega)).trans (by omega)
          have d6 : (((k - 1 : Nat) : Int) < ((l.length - i : Nat) : Int)) = True := eq_true (by omega)
          have d7 : IntKind.i64.wrap ((k : Int) + 1) = ((k + 1 : Nat) : Int) := wr_nat (by omega)
          have d8 : (0 ≤ ((k - 1 : Nat) : Int)) = True := eq_true (by omega)
          by_cases e2 : l[i + k] = (l[i + k - 1]'(by omega))
          · have hk2 := pln_skip hu (by omega) (by rw [hv, e2])
            have heb2 := pt_eb e2
            generalize l[i + k] = u at *
            generalize (l[i + k - 1]'(by omega)) = v at *
            try simp only [r35_0, r35_1, r35_2, r35_3, r35_4, r35_6, r35_7, r35_8, r35_9, r35_11, r35_12, r35_13, r35_10, r35_14, r35_15, r35_5, r35_16, c35, F35, l35_0, l35_1, t5, t4, t0, t3, d2, d3, d5, d6, d7, d8, ru, rv, heb2, Int.toNat_natCast, Nat.zero_add, go_sem, Int.reduceTMod, Int.reduceTDiv, Int.reduceDiv, Int.reduceMod, Int.reduceAdd, Int.reduceSub, Int.reduceMul, Int.reduceNeg, Int.reducePow, Int.reduceEq, ↓reduceIte, Nat.reduceEqDiff, Nat.reduceAdd, Nat.reduceMul, Nat.reduceLeDiff, Nat.reduceSub, Nat.reduceLT, Int.reduceToNat, Int.reduceLT, Int.reduceLE, reduceCtorEq]
            repeat' ((first | refine FK_split (fun h_ => ?_) (fun h_ => ?_) | refine GK_split (fun h_ => ?_) (fun h_ => ?_) | refine ite_both (fun h_ => ?_) (fun h_ => ?_)) <;> (try simp only [decide_eq_true_eq, decide_eq_false_iff_not, Bool.not_true, Bool.not_false, Bool.not_eq_true', Bool.not_eq_false', Bool.not_eq_eq_eq_not, Decidable.not_not] at h_) <;> (try simp only [r35_0, r35_1, r35_2, r35_3, r35_4, r35_6, r35_7, r35_8, r35_9, r35_11, r35_12, r35_13, r35_10, r35_14, r35_15, r35_5, r35_16, c35, F35, l35_0, l35_1, t5, t4, t0, t3, d2, d3, d5, d6, d7, d8, ru, rv, heb2, Int.toNat_natCast, Nat.zero_add, h_, go_sem, Int.reduceTMod, Int.reduceTDiv, Int.reduceDiv, Int.reduceMod, Int.reduceAdd, Int.reduceSub, Int.reduceMul, Int.reduceNeg, Int.reducePow, Int.reduceEq, ↓reduceIte, Nat.reduceEqDiff, Nat.reduceAdd, Nat.reduceMul, Nat.reduceLeDiff, Nat.reduceSub, Nat.reduceLT, Int.reduceToNat, Int.reduceLT, Int.reduceLE, reduceCtorEq]))
            refine next _ ⟨?_, ?_, ?_, ?_, ?_, ?_, ?_, ?_, ?_⟩
            all_goals (try rw [← Nat.add_assoc]) <;> (try rw [hk2])
            · simp only [go_sem, Int.reduceTMod, Int.reduceTDiv, Int.reduceDiv, Int.reduceMod, Int.reduceAdd, Int.reduceSub, Int.reduceMul, Int.reduceNeg, Int.reducePow, Int.reduceEq, ↓reduceIte, Nat.reduceEqDiff, Nat.reduceAdd, Nat.reduceMul, Nat.reduceLeDiff, Nat.reduceSub, Nat.reduceLT, Int.reduceToNat, Int.reduceLT, Int.reduceLE, reduceCtorEq]
            · simp only [t4, go_sem, Int.reduceTMod, Int.reduceTDiv, Int.reduceDiv, Int.reduceMod, Int.reduceAdd, Int.reduceSub, Int.reduceMul, Int.reduceNeg, Int.reducePow, Int.reduceEq, ↓reduceIte, Nat.reduceEqDiff, Nat.reduceAdd, Nat.reduceMul, Nat.reduceLeDiff, Nat.reduceSub, Nat.reduceLT, Int.reduceToNat, Int.reduceLT, Int.reduceLE, reduceCtorEq]
            · simp only [t0, go_sem, Int.reduceTMod, Int.reduceTDiv, Int.reduceDiv, Int.reduceMod, Int.reduceAdd, Int.reduceSub, Int.reduceMul, Int.reduceNeg, Int.reducePow, Int.reduceEq, ↓reduceIte, Nat.reduceEqDiff, Nat.reduceAdd, Nat.reduceMul, Nat.reduceLeDiff, Nat.reduceSub, Nat.reduceLT, Int.reduceToNat, Int.reduceLT, Int.reduceLE, reduceCtorEq]
            · rfl
            · omega
            · simp only [t3, go_sem, Int.reduceTMod, Int.reduceTDiv, Int.reduceDiv, Int.reduceMod, Int.reduceAdd, Int.reduceSub, Int.reduceMul, Int.reduceNeg, Int.reducePow, Int.reduceEq, ↓reduceIte, Nat.reduceEqDiff, Nat.reduceAdd, Nat.reduceMul, Nat.reduceLeDiff, Nat.reduceSub, Nat.reduceLT, Int.reduceToNat, Int.reduceLT, Int.reduceLE, reduceCtorEq]
            · omega
            · exact tm
            · exact tf
          · have hk2 := pln_keep hu (Or.inr (by rw [hv]; intro h; exact e2 (Option.some.inj h).symm))
            have heb2 := pt_nb e2
            have hdrop : l.drop (pln l (i + k)).length = (l[(pln l (i + k)).length]'(by omega)) :: l.drop ((pln l (i + k)).length + 1) := List.drop_eq_getElem_cons (by omega)
            have tm' := tm
            rw [hdrop] at tm'
            have hset := @set_pt (pln l (i + k)) (l.drop ((pln l (i + k)).length + 1)) (l[(pln l (i + k)).length]'(by omega)) l[i + k]
            have hlX := flatMap_len Pt.cs 2 cs2 (pln l (i + k) ++ (l[(pln l (i + k)).length]'(by omega)) :: l.drop ((pln l (i + k)).length + 1))
            rw [List.length_append, List.length_cons] at hlX
            obtain ⟨X, hX⟩ : ∃ X, X = (pln l (i + k) ++ (l[(pln l (i + k)).length]'(by omega)) :: l.drop ((pln l (i + k)).length + 1)).flatMap Pt.cs := ⟨_, rfl⟩
            rw [← hX] at hset hlX tm'
            have hle : ((pln l (i + k)).length * 2 + 2 ≤ X.length) = True := eq_true (by omega)
            have d9 : (((pln l (i + k)).length : Int) < (l.length : Int)) = True := eq_true (by omega)
            have d10 : (0 ≤ ((pln l (i + k)).length : Int)) = True := eq_true (by omega)
            have d11 : IntKind.i64.wrap (((pln l (i + k)).length : Int) + 1) = (((pln l (i + k)).length + 1 : Nat) : Int) := wr_nat (by omega)
            generalize l[i + k] = u at *
            generalize (l[i + k - 1]'(by omega)) = v at *
            try simp only [r35_0, r35_1, r35_2, r35_3, r35_4, r35_6, r35_7, r35_8, r35_9, r35_11, r35_12, r35_13, r35_10, r35_14, r35_15, r35_5, r35_16, c35, F35, l35_0, l35_1, t5, t4, t0, t3, d2, d3, d5, d6, d7, d8, d9, d10, d11, ru, rv, heb2, tm', hle, hset, Int.toNat_natCast, Nat.zero_add, go_sem, Int.reduceTMod, Int.reduceTDiv, Int.reduceDiv, Int.reduceMod, Int.reduceAdd, Int.reduceSub, Int.reduceMul, Int.reduceNeg, Int.reducePow, Int.reduceEq, ↓reduceIte, Nat.reduceEqDiff, Nat.reduceAdd, Nat.reduceMul, Nat.reduceLeDiff, Nat.reduceSub, Nat.reduceLT, Int.reduceToNat, Int.reduceLT, Int.reduceLE, reduceCtorEq]
            repeat' ((first | refine FK_split (fun h_ => ?_) (fun h_ => ?_) | refine GK_split (fun h_ => ?_) (fun h_ => ?_) | refine ite_both (fun h_ => ?_) (fun h_ => ?_)) <;> (try simp only [decide_eq_true_eq, decide_eq_false_iff_not, Bool.not_true, Bool.not_false, Bool.not_eq_true', Bool.not_eq_false', Bool.not_eq_eq_eq_not, Decidable.not_not] at h_) <;> (try simp only [r35_0, r35_1, r35_2, r35_3, r35_4, r35_6, r35_7, r35_8, r35_9, r35_11, r35_12, r35_13, r35_10, r35_14, r35_15, r35_5, r35_16, c35, F35, l35_0, l35_1, t5, t4, t0, t3, d2, d3, d5, d6, d7, d8, d9, d10, d11, ru, rv, heb2, tm', hle, hset, Int.toNat_natCast, Nat.zero_add, h_, go_sem, Int.reduceTMod, Int.reduceTDiv, Int.reduceDiv, Int.reduceMod, Int.reduceAdd, Int.reduceSub, Int.reduceMul, Int.reduceNeg, Int.reducePow, Int.reduceEq, ↓reduceIte, Nat.reduceEqDiff, Nat.reduceAdd, Nat.reduceMul, Nat.reduceLeDiff, Nat.reduceSub, Nat.reduceLT, Int.reduceToNat, Int.reduceLT, Int.reduceLE, reduceCtorEq]))
            refine next _ ⟨?_, ?_, ?_, ?_, ?_, ?_, ?_, ?_, ?_⟩
            all_goals (try rw [← Nat.add_assoc]) <;> (try rw [hk2])
            · simp only [go_sem, Int.reduceTMod, Int.reduceTDiv, Int.reduceDiv, Int.reduceMod, Int.reduceAdd, Int.reduceSub, Int.reduceMul, Int.reduceNeg, Int.reducePow, Int.reduceEq, ↓reduceIte, Nat.reduceEqDiff, Nat.reduceAdd, Nat.reduceMul, Nat.reduceLeDiff, Nat.reduceSub, Nat.reduceLT, Int.reduceToNat, Int.reduceLT, Int.reduceLE, reduceCtorEq]
            · simp only [t4, go_sem, Int.reduceTMod, Int.reduceTDiv, Int.reduceDiv, Int.reduceMod, Int.reduceAdd, Int.reduceSub, Int.reduceMul, Int.reduceNeg, Int.reducePow, Int.reduceEq, ↓reduceIte, Nat.reduceEqDiff, Nat.reduceAdd, Nat.reduceMul, Nat.reduceLeDiff, Nat.reduceSub, Nat.reduceLT, Int.reduceToNat, Int.reduceLT, Int.reduceLE, reduceCtorEq]
            · simp only [t0, go_sem, Int.reduceTMod, Int.reduceTDiv, Int.reduceDiv, Int.reduceMod, Int.reduceAdd, Int.reduceSub, Int.reduceMul, Int.reduceNeg, Int.reducePow, Int.reduceEq, ↓reduceIte, Nat.reduceEqDiff, Nat.reduceAdd, Nat.reduceMul, Nat.reduceLeDiff, Nat.reduceSub, Nat.reduceLT, Int.reduceToNat, Int.reduceLT, Int.reduceLE, reduceCtorEq]
            · rfl
            · omega
            · simp only [List.length_append, go_sem, Int.reduceTMod, Int.reduceTDiv, Int.reduceDiv, Int.reduceMod, Int.reduceAdd, Int.reduceSub, Int.reduceMul, Int.reduceNeg, Int.reducePow, Int.reduceEq, ↓reduceIte, Nat.reduceEqDiff, Nat.reduceAdd, Nat.reduceMul, Nat.reduceLeDiff, Nat.reduceSub, Nat.reduceLT, Int.reduceToNat, Int.reduceLT, Int.reduceLE, reduceCtorEq]
            · simp only [List.length_append, List.length_cons, List.length_nil]
              omega
            · simp only [List.length_append, List.length_cons, List.length_nil, Nat.zero_add]
              simp only [go_sem, Int.reduceTMod, Int.reduceTDiv, Int.reduceDiv, Int.reduceMod, Int.reduceAdd, Int.reduceSub, Int.reduceMul, Int.reduceNeg, Int.reducePow, Int.reduceEq, ↓reduceIte, Nat.reduceEqDiff, Nat.reduceAdd, Nat.reduceMul, Nat.reduceLeDiff, Nat.reduceSub, Nat.reduceLT, Int.reduceToNat, Int.reduceLT, Int.reduceLE, reduceCtorEq]
              rw [List.append_assoc]
              rfl
            · intro j hj
              simp only [hj, go_sem, Int.reduceTMod, Int.reduceTDiv, Int.reduceDiv, Int.reduceMod, Int.reduceAdd, Int.reduceSub, Int.reduceMul, Int.reduceNeg, Int.reducePow, Int.reduceEq, ↓reduceIte, Nat.reduceEqDiff, Nat.reduceAdd, Nat.reduceMul, Nat.reduceLeDiff, Nat.reduceSub, Nat.reduceLT, Int.reduceToNat, Int.reduceLT, Int.reduceLE, reduceCtorEq]
              exact tf j hj
        · obtain ⟨e', M', N'⟩ := s
          obtain ⟨t5, t4, t0, tn, t1, t3, tq, tm, tf⟩ := hs
          simp only at t5 t4 t0 tn t1 t3 tq tm tf
          rw [show i + (l.length - i) = l.length by omega] at t3 tq tm
          have d2 : (((l.length - i : Nat) : Int) < ((l.length - i : Nat) : Int)) = False := eq_false (by omega)
          have hlX := flatMap_len Pt.cs 2 cs2 (pln l l.length ++ l.drop (pln l l.length).length)
          rw [List.length_append, List.length_drop] at hlX
          have hfr : ((pln l l.length ++ l.drop (pln l l.length).length).flatMap Pt.cs).take ((pln l l.length).length * 2) = (pln l l.length).flatMap Pt.cs := by
            rw [List.flatMap_append, ← flatMap_len Pt.cs 2 cs2 (pln l l.length), List.take_left']
            rfl
          obtain ⟨X, hX⟩ : ∃ X, X = (pln l l.length ++ l.drop (pln l l.length).length).flatMap Pt.cs := ⟨_, rfl⟩
          rw [← hX] at hlX tm hfr
          have hb1 := bnds_lo (len := l.length) (i := (pln l l.length).length) (by omega)
          have hb2 := bnds_hi (len := l.length) (i := (pln l l.length).length) (by omega)
          have z0 : (l.length - (pln l l.length).length = 0) = False := eq_false (by omega)
          obtain ⟨Z, hZ⟩ : ∃ Z, Z = (List.replicate (l.length - (pln l l.length).length) [Cell.sc (Value.int .i64 0), Cell.sc (Value.int .i64 0)]).flatten := ⟨_, rfl⟩
          have hlZ : Z.length = (l.length - (pln l l.length).length) * 2 := by rw [hZ]; simp [List.length_flatten]
          have hle : ((pln l l.length).length * 2 + Z.length ≤ X.length) = True := eq_true (by omega)
          try simp only [r35_0, r35_1, r35_2, r35_3, r35_4, r35_6, r35_7, r35_8, r35_9, r35_11, r35_12, r35_13, r35_10, r35_14, r35_15, r35_5, r35_16, c35, F35, l35_0, l35_1, t5, t4, t0, t3, d2, hb1, hb2, z0, tm, ← hZ, hle, Option.map_none, Option.map_some, Nat.zero_add, Nat.zero_mul, Nat.sub_zero, go_sem, Int.reduceTMod, Int.reduceTDiv, Int.reduceDiv, Int.reduceMod, Int.reduceAdd, Int.reduceSub, Int.reduceMul, Int.reduceNeg, Int.reducePow, Int.reduceEq, ↓reduceIte, Nat.reduceEqDiff, Nat.reduceAdd, Nat.reduceMul, Nat.reduceLeDiff, Nat.reduceSub, Nat.reduceLT, Int.reduceToNat, Int.reduceLT, Int.reduceLE, reduceCtorEq]
          repeat' ((first | refine FK_split (fun h_ => ?_) (fun h_ => ?_) | refine GK_split (fun h_ => ?_) (fun h_ => ?_) | refine ite_both (fun h_ => ?_) (fun h_ => ?_)) <;> (try simp only [decide_eq_true_eq, decide_eq_false_iff_not, Bool.not_true, Bool.not_false, Bool.not_eq_true', Bool.not_eq_false', Bool.not_eq_eq_eq_not, Decidable.not_not] at h_) <;> (try simp only [r35_0, r35_1, r35_2, r35_3, r35_4, r35_6, r35_7, r35_8, r35_9, r35_11, r35_12, r35_13, r35_10, r35_14, r35_15, r35_5, r35_16, c35, F35, l35_0, l35_1, t5, t4, t0, t3, d2, hb1, hb2, z0, tm, ← hZ, hle, Option.map_none, Option.map_some, Nat.zero_add, Nat.zero_mul, Nat.sub_zero, h_, go_sem, Int.reduceTMod, Int.reduceTDiv, Int.reduceDiv, Int.reduceMod, Int.reduceAdd, Int.reduceSub, Int.reduceMul, Int.reduceNeg, Int.reducePow, Int.reduceEq, ↓reduceIte, Nat.reduceEqDiff, Nat.reduceAdd, Nat.reduceMul, Nat.reduceLeDiff, Nat.reduceSub, Nat.reduceLT, Int.reduceToNat, Int.reduceLT, Int.reduceLE, reduceCtorEq]))
          refine ⟨Or.inr ⟨id, none, _, rfl, Nat.le_refl _, by omega, upd_same _ _ _, ?_, Or.inl rfl⟩, tn, fun j hj => ?_⟩
          · refine rd_front (upd_same _ _ _) ?_
            rw [setL_take _ _ _ _ (Nat.le_refl _), hfr]
          · rw [if_neg hj]
            exact tf j hj
        · simp only [go_sem, Int.reduceTMod, Int.reduceTDiv, Int.reduceDiv, Int.reduceMod, Int.reduceAdd, Int.reduceSub, Int.reduceMul, Int.reduceNeg, Int.reducePow, Int.reduceEq, ↓reduceIte, Nat.reduceEqDiff, Nat.reduceAdd, Nat.reduceMul, Nat.reduceLeDiff, Nat.reduceSub, Nat.reduceLT, Int.reduceToNat, Int.reduceLT, Int.reduceLE, reduceCtorEq]
          have hmin : min i l.length = i := Nat.min_eq_left (by omega)
          rw [hk]
          simp only [List.length_take, hmin, List.take_append_drop]
          exact ⟨q0, q3, by omega, hm, fun _ _ => trivial⟩
      · have hk := pln_keep hp (Or.inr (by rw [hp']; intro h; exact e1 (Option.some.inj h).symm))
        rw [qp] at hk
        have heb := pt_nb e1
        have hts := take_snoc hp
        generalize hgp : l[i] = p at *
        generalize hgq : (l[i - 1]'(by omega)) = q at *
        try simp only [r35_0, r35_1, r35_2, r35_3, r35_4, r35_6, r35_7, r35_8, r35_9, r35_11, r35_12, r35_13, r35_10, r35_14, r35_15, r35_5, r35_16, c35, F35, l35_0, l35_1, q3, q0, c2, c3, c5, c6, c7, c8, hrd, hrd', heb, Int.toNat_natCast, Nat.zero_add, go_sem, Int.reduceTMod, Int.reduceTDiv, Int.reduceDiv, Int.reduceMod, Int.reduceAdd, Int.reduceSub, Int.reduceMul, Int.reduceNeg, Int.reducePow, Int.reduceEq, ↓reduceIte, Nat.reduceEqDiff, Nat.reduceAdd, Nat.reduceMul, Nat.reduceLeDiff, Nat.reduceSub, Nat.reduceLT, Int.reduceToNat, Int.reduceLT, Int.reduceLE, reduceCtorEq]
        repeat' ((first | refine FK_split (fun h_ => ?_) (fun h_ => ?_) | refine GK_split (fun h_ => ?_) (fun h_ => ?_) | refine ite_both (fun h_ => ?_) (fun h_ => ?_)) <;> (try simp only [decide_eq_true_eq, decide_eq_false_iff_not, Bool.not_true, Bool.not_false, Bool.not_eq_true', Bool.not_eq_false', Bool.not_eq_eq_eq_not, Decidable.not_not] at h_) <;> (try simp only [r35_0, r35_1, r35_2, r35_3, r35_4, r35_6, r35_7, r35_8, r35_9, r35_11, r35_12, r35_13, r35_10, r35_14, r35_15, r35_5, r35_16, c35, F35, l35_0, l35_1, q3, q0, c2, c3, c5, c6, c7, c8, hrd, hrd', heb, Int.toNat_natCast, Nat.zero_add, h_, go_sem, Int.reduceTMod, Int.reduceTDiv, Int.reduceDiv, Int.reduceMod, Int.reduceAdd, Int.reduceSub, Int.reduceMul, Int.reduceNeg, Int.reducePow, Int.reduceEq, ↓reduceIte, Nat.reduceEqDiff, Nat.reduceAdd, Nat.reduceMul, Nat.reduceLeDiff, Nat.reduceSub, Nat.reduceLT, Int.reduceToNat, Int.reduceLT, Int.reduceLE, reduceCtorEq]))
        refine next _ ⟨?_, ?_, ?_, ?_, ?_, ?_⟩
        · simp only [go_sem, Int.reduceTMod, Int.reduceTDiv, Int.reduceDiv, Int.reduceMod, Int.reduceAdd, Int.reduceSub, Int.reduceMul, Int.reduceNeg, Int.reducePow, Int.reduceEq, ↓reduceIte, Nat.reduceEqDiff, Nat.reduceAdd, Nat.reduceMul, Nat.reduceLeDiff, Nat.reduceSub, Nat.reduceLT, Int.reduceToNat, Int.reduceLT, Int.reduceLE, reduceCtorEq]
        · simp only [q0, go_sem, Int.reduceTMod, Int.reduceTDiv, Int.reduceDiv, Int.reduceMod, Int.reduceAdd, Int.reduceSub, Int.reduceMul, Int.reduceNeg, Int.reducePow, Int.reduceEq, ↓reduceIte, Nat.reduceEqDiff, Nat.reduceAdd, Nat.reduceMul, Nat.reduceLeDiff, Nat.reduceSub, Nat.reduceLT, Int.reduceToNat, Int.reduceLT, Int.reduceLE, reduceCtorEq]
        · rfl
        · rfl
        · omega
        · rw [hk, hts]
    · obtain ⟨e, M, N⟩ := s
      obtain ⟨q3, q0, qm, qn, q1, qp⟩ := hs
      simp only at q3 q0 qm qn q1 qp
      subst qm
      subst qn
      have c2 : ((l.length : Int) < (l.length : Int)) = False := eq_false (by omega)
      rw [List.take_length] at qp
      have hf := hfull 0 qp
      try simp only [r35_0, r35_1, r35_2, r35_3, r35_4, r35_6, r35_7, r35_8, r35_9, r35_11, r35_12, r35_13, r35_10, r35_14, r35_15, r35_5, r35_16, c35, F35, l35_0, l35_1, q3, q0, c2, go_sem, Int.reduceTMod, Int.reduceTDiv, Int.reduceDiv, Int.reduceMod, Int.reduceAdd, Int.reduceSub, Int.reduceMul, Int.reduceNeg, Int.reducePow, Int.reduceEq, ↓reduceIte, Nat.reduceEqDiff, Nat.reduceAdd, Nat.reduceMul, Nat.reduceLeDiff, Nat.reduceSub, Nat.reduceLT, Int.reduceToNat, Int.reduceLT, Int.reduceLE, reduceCtorEq]
      repeat' ((first | refine FK_split (fun h_ => ?_) (fun h_ => ?_) | refine GK_split (fun h_ => ?_) (fun h_ => ?_) | refine ite_both (fun h_ => ?_) (fun h_ => ?_)) <;> (try simp only [decide_eq_true_eq, decide_eq_false_iff_not, Bool.not_true, Bool.not_false, Bool.not_eq_true', Bool.not_eq_false', Bool.not_eq_eq_eq_not, Decidable.not_not] at h_) <;> (try simp only [r35_0, r35_1, r35_2, r35_3, r35_4, r35_6, r35_7, r35_8, r35_9, r35_11, r35_12, r35_13, r35_10, r35_14, r35_15, r35_5, r35_16, c35, F35, l35_0, l35_1, q3, q0, c2, h_, go_sem, Int.reduceTMod, Int.reduceTDiv, Int.reduceDiv, Int.reduceMod, Int.reduceAdd, Int.reduceSub, Int.reduceMul, Int.reduceNeg, Int.reducePow, Int.reduceEq, ↓reduceIte, Nat.reduceEqDiff, Nat.reduceAdd, Nat.reduceMul, Nat.reduceLeDiff, Nat.reduceSub, Nat.reduceLT, Int.reduceToNat, Int.reduceLT, Int.reduceLE, reduceCtorEq]))
      exact ⟨hf, fun _ _ => trivial⟩
    · simp only [go_sem, Int.reduceTMod, Int.reduceTDiv, Int.reduceDiv, Int.reduceMod, Int.reduceAdd, Int.reduceSub, Int.reduceMul, Int.reduceNeg, Int.reducePow, Int.reduceEq, ↓reduceIte, Nat.reduceEqDiff, Nat.reduceAdd, Nat.reduceMul, Nat.reduceLeDiff, Nat.reduceSub, Nat.reduceLT, Int.reduceToNat, Int.reduceLT, Int.reduceLE, reduceCtorEq]
      match l, h2 with
      | p :: l, _ => exact rfl

/- Plain numbers: what a shift over two words comes to. Conditions: those that each theorem names. -/
open Go Go.RowKit

theorem or_comm (k : IntKind) (x y : Int) : Go.bits .or k x y = Go.bits .or k y x := by
  show k.wrap ((BitVec.ofInt k.bits x ||| BitVec.ofInt k.bits y).toNat : Int) = k.wrap ((BitVec.ofInt k.bits y ||| BitVec.ofInt k.bits x).toNat : Int)
  rw [BitVec.or_comm]
theorem wraps_u64 (n : Int) (h₀ : 0 ≤ n) (h₁ : n < 2 ^ 64) : IntKind.u64.wrap n = n := by
  have : (2 : Int) ^ 64 = 18446744073709551616 := by decide
  rw [wu64]; omega
theorem shrPart {p : Int} {k : Nat} (h0 : 0 < k) (h1 : k < 64) :
    Go.bits .or .u64 (p % 18446744073709551616 / 2 ^ k) (IntKind.u64.wrap (p / 18446744073709551616 % 18446744073709551616 * 2 ^ (64 - k))) = p / 2 ^ k % 18446744073709551616 := by
  have hk : (0 : Int) < 2 ^ k := Int.pow_pos (by decide)
  have hm : (0 : Int) < 2 ^ (64 - k) := Int.pow_pos (by decide)
  have hw : (2 : Int) ^ k * 2 ^ (64 - k) = 18446744073709551616 := by
    rw [← Int.pow_add, show k + (64 - k) = 64 by omega]; decide
  rw [or_comm, wu64]
  obtain ⟨K, eK⟩ : ∃ K : Int, K = 2 ^ k := ⟨_, rfl⟩
  obtain ⟨M, eM⟩ : ∃ M : Int, M = 2 ^ (64 - k) := ⟨_, rfl⟩
  rw [← eK] at hk hw ⊢
  rw [← eM] at hm hw ⊢
  obtain ⟨H, eH⟩ : ∃ H : Int, H = p / 18446744073709551616 := ⟨_, rfl⟩
  obtain ⟨L, eL⟩ : ∃ L : Int, L = p % 18446744073709551616 := ⟨_, rfl⟩
  rw [← eH, ← eL]
  have eP : p = L + K * (M * H) := by rw [← Int.mul_assoc, hw]; omega
  have l0 : 0 ≤ L := by omega
  have l1 : L / K < M := Int.ediv_lt_of_lt_mul hk (by rw [Int.mul_comm, hw]; omega)
  have l2 : 0 ≤ L / K := Int.ediv_nonneg l0 (by omega)
  have l3 : M ≤ 18446744073709551616 := by
    have := Int.mul_le_mul_of_nonneg_right (show (1 : Int) ≤ K by omega) (show 0 ≤ M by omega)
    omega
  have eq1 : p / K = L / K + M * H := by rw [eP, Int.add_mul_ediv_left _ _ (by omega)]
  have em : (H % 18446744073709551616 * M) % 18446744073709551616 = (M * H) % 18446744073709551616 := by
    rw [Int.mul_comm M H, Int.mul_emod, Int.emod_emod_of_dvd _ (Int.dvd_refl _), ← Int.mul_emod]
  have hd : (M * H) % 18446744073709551616 % M = 0 := by
    rw [Int.emod_emod_of_dvd _ ⟨K, by rw [Int.mul_comm, hw]⟩]
    exact Int.mul_emod_right _ _
  have pw : (2 : Int) ^ 64 = 18446744073709551616 := by decide
  rw [em, bits_join .u64 64 (by decide) wraps_u64 (64 - k) _ _ (by omega) (by rw [← eM]; exact hd) (by omega) l2 (by rw [← eM]; exact l1) (by omega), eq1]
  -- the sum does not reach the next
  obtain ⟨Q, eQ⟩ : ∃ Q : Int, Q = (M * H) / 18446744073709551616 := ⟨_, rfl⟩
  obtain ⟨R, eR⟩ : ∃ R : Int, R = (M * H) % 18446744073709551616 := ⟨_, rfl⟩
  have es : M * H = 18446744073709551616 * Q + R := by omega
  have r1 : R + L / K < 18446744073709551616 := by
    rw [← eR] at hd
    obtain ⟨t, ht⟩ := Int.dvd_of_emod_eq_zero hd
    have hR : R < 18446744073709551616 := by omega
    rw [ht, ← hw, Int.mul_comm K M] at hR
    have : t < K := Int.lt_of_mul_lt_mul_left hR (by omega)
    have h5 : M * t ≤ M * (K - 1) := Int.mul_le_mul_of_nonneg_left (by omega) (by omega)
    rw [Int.mul_sub, Int.mul_one, Int.mul_comm M K, hw] at h5
    omega
  rw [es]
  omega

/- Roots walked: package wide's. Conditions: those that each theorem names. -/
open Go Go.Proofs Go.RowKit
set_option linter.unusedSimpArgs false
set_option linter.unusedVariables false

open Classical in
/-- The root: the greatest number from 0 on whose square is not above. -/
noncomputable def isq (n : Int) : Int := if h : ∃ q : Int, 0 ≤ q ∧ q * q ≤ n ∧ n < (q + 1) * (q + 1) then Classical.choose h else 0
theorem root_unique {n p q : Int} (hp : 0 ≤ p) (h1 : p * p ≤ n) (h2 : n < (p + 1) * (p + 1)) (hq : 0 ≤ q) (k1 : q * q ≤ n) (k2 : n < (q + 1) * (q + 1)) : p = q := by
  rcases Int.lt_trichotomy p q with h | h | h
  · have := Int.mul_le_mul (show p + 1 ≤ q by omega) (show p + 1 ≤ q by omega) (by omega) (by omega)
    omega
  · exact h
  · have := Int.mul_le_mul (show q + 1 ≤ p by omega) (show q + 1 ≤ p by omega) (by omega) (by omega)
    omega
theorem isq_eq {n q : Int} (hq : 0 ≤ q) (k1 : q * q ≤ n) (k2 : n < (q + 1) * (q + 1)) : isq n = q := by
  have hx : ∃ q : Int, 0 ≤ q ∧ q * q ≤ n ∧ n < (q + 1) * (q + 1) := ⟨q, hq, k1, k2⟩
  unfold isq
  rw [dif_pos hx]
  obtain ⟨a1, a2, a3⟩ := Classical.choose_spec hx
  exact root_unique a1 a2 a3 hq k1 k2
theorem pow32 {i : Nat} (h : i ≤ 32) : (0 : Int) < 2 ^ i ∧ (2 : Int) ^ i ≤ 4294967296 := by
  have h1 : (0 : Int) < 2 ^ i := Int.pow_pos (by decide)
  have h2 : (2 : Int) ^ i * 2 ^ (32 - i) = 4294967296 := by rw [← Int.pow_add, show i + (32 - i) = 32 by omega]; decide
  have h3 : (0 : Int) < 2 ^ (32 - i) := Int.pow_pos (by decide)
  have h4 := Int.mul_le_mul_of_nonneg_left (show (1 : Int) ≤ 2 ^ (32 - i) by omega) (Int.le_of_lt h1)
  exact ⟨h1, by omega⟩
theorem wraps_i64 (n : Int) (h₀ : 0 ≤ n) (h₁ : n < 2 ^ 63) : IntKind.i64.wrap n = n := by
  have : (2 : Int) ^ 63 = 9223372036854775808 := by decide
  exact wr_eq (by omega) (by omega)
/-- One digit more: r has zeros there. -/
theorem orBit {r : Int} {i : Nat} (hi : i ≤ 31) (h0 : 0 ≤ r) (h1 : r < 4294967296) (h2 : r % 2 ^ (i + 1) = 0) : Go.bits .or .i64 r (IntKind.i64.wrap (1 * 2 ^ i)) = r + 2 ^ i := by
  have p := pow32 (i := i) (by omega)
  have pw : (2 : Int) ^ 63 = 9223372036854775808 := by decide
  rw [Int.one_mul, wraps_i64 _ (by omega) (by omega)]
  exact bits_join .i64 63 (by decide) wraps_i64 (i + 1) _ _ h0 h2 (by omega) (by omega) (by rw [Int.pow_succ]; omega) (by omega)
theorem sgn_le {x : Int} : (sgn x ≤ 0) = (x ≤ 0) := by
  apply propext
  unfold sgn
  split
  · omega
  · split <;> omega
theorem v_Of' (a : Int) (h0 : -9223372036854775808 ≤ a) (h1 : a ≤ 9223372036854775807) (m : Mem) (n : Nat) : callF TA 53 [RI a] m n = some (wN a) := by
  refine callF_of (Fn_ofK (fn := F53) rfl (by simp [F53]) ?_)
  have e : a / 9223372036854775808 = a / 18446744073709551616 := by omega
  try simp only [r53_0, r53_1, c53, F53, e, go_sem, Int.reduceTMod, Int.reduceTDiv, Int.reduceDiv, Int.reduceMod, Int.reduceAdd, Int.reduceSub, Int.reduceMul, Int.reduceNeg, Int.reducePow, Int.reduceEq, ↓reduceIte, Nat.reduceEqDiff, Nat.reduceAdd, Nat.reduceMul, Nat.reduceLeDiff, Nat.reduceSub, Nat.reduceLT, Int.reduceToNat, Int.reduceLT, Int.reduceLE, reduceCtorEq]
  repeat' ((first | refine FK_split (fun h_ => ?_) (fun h_ => ?_) | refine GK_split (fun h_ => ?_) (fun h_ => ?_) | refine ite_both (fun h_ => ?_) (fun h_ => ?_)) <;> (try simp only [decide_eq_true_eq, decide_eq_false_iff_not, Bool.not_true, Bool.not_false, Bool.not_eq_true', Bool.not_eq_false', Bool.not_eq_eq_eq_not, Decidable.not_not] at h_) <;> (try simp only [r53_0, r53_1, c53, F53, e, h_, go_sem, Int.reduceTMod, Int.reduceTDiv, Int.reduceDiv, Int.reduceMod, Int.reduceAdd, Int.reduceSub, Int.reduceMul, Int.reduceNeg, Int.reducePow, Int.reduceEq, ↓reduceIte, Nat.reduceEqDiff, Nat.reduceAdd, Nat.reduceMul, Nat.reduceLeDiff, Nat.reduceSub, Nat.reduceLT, Int.reduceToNat, Int.reduceLT, Int.reduceLE, reduceCtorEq]))
theorem cmpW (x y : Int) : cmpN (x / 18446744073709551616) (x % 18446744073709551616) (y / 18446744073709551616) (y % 18446744073709551616) = sgn (x - y) := by
  unfold cmpN
  simp only [sgn_sub]
  repeat' split
  all_goals omega
theorem v_Sqrt (n : Int) (hn0 : 0 ≤ n) (hn1 : n ≤ 9223372036854775807) (m : Mem) (k : Nat) : callF TA 42 [RI n] m k = some (RI (isq n)) := by
  refine callF_of (Fn_ofK (fn := F42) rfl (by simp [F42]) ?_)
  have vo := v_Of' n (by omega) hn1
  try simp only [r42_0, r42_1, r42_2, r42_3, r42_5, r42_6, r42_7, r42_4, r42_8, c42, F42, go_sem, Int.reduceTMod, Int.reduceTDiv, Int.reduceDiv, Int.reduceMod, Int.reduceAdd, Int.reduceSub, Int.reduceMul, Int.reduceNeg, Int.reducePow, Int.reduceEq, ↓reduceIte, Nat.reduceEqDiff, Nat.reduceAdd, Nat.reduceMul, Nat.reduceLeDiff, Nat.reduceSub, Nat.reduceLT, Int.reduceToNat, Int.reduceLT, Int.reduceLE, reduceCtorEq]
  repeat' ((first | refine FK_split (fun h_ => ?_) (fun h_ => ?_) | refine GK_split (fun h_ => ?_) (fun h_ => ?_) | refine ite_both (fun h_ => ?_) (fun h_ => ?_)) <;> (try simp only [decide_eq_true_eq, decide_eq_false_iff_not, Bool.not_true, Bool.not_false, Bool.not_eq_true', Bool.not_eq_false', Bool.not_eq_eq_eq_not, Decidable.not_not] at h_) <;> (try simp only [r42_0, r42_1, r42_2, r42_3, r42_5, r42_6, r42_7, r42_4, r42_8, c42, F42, h_, go_sem, Int.reduceTMod, Int.reduceTDiv, Int.reduceDiv, Int.reduceMod, Int.reduceAdd, Int.reduceSub, Int.reduceMul, Int.reduceNeg, Int.reducePow, Int.reduceEq, ↓reduceIte, Nat.reduceEqDiff, Nat.reduceAdd, Nat.reduceMul, Nat.reduceLeDiff, Nat.reduceSub, Nat.reduceLT, Int.reduceToNat, Int.reduceLT, Int.reduceLE, reduceCtorEq]))
  refine XK_iter (inv := fun c s => s.e 4 = RI (31 - (c : Int)) ∧ s.e 0 = RI n ∧ ∃ r : Int, s.e 3 = RI r ∧ 0 ≤ r ∧ r % 2 ^ (32 - c) = 0 ∧ r + 2 ^ (32 - c) ≤ 4294967296 ∧ r * r ≤ n ∧ n < (r + 2 ^ (32 - c)) * (r + 2 ^ (32 - c))) 32
    (fun L _ => ⟨fun c hc s hs next => ?_, fun s hs => ?_⟩) 0 (by omega) _ ?_
  · obtain ⟨q4, q0, r, q3, h0, h1, h2, h3, h4⟩ := hs
    obtain ⟨i, hi⟩ : ∃ i, i = 31 - c := ⟨_, rfl⟩
    have ei : (31 : Int) - (c : Int) = ((i : Nat) : Int) := by omega
    have e32 : 32 - c = i + 1 := by omega
    have e31 : 32 - (c + 1) = i := by omega
    rw [ei] at q4
    rw [e32] at h1 h2 h4
    have p := pow32 (i := i) (by omega)
    have eo := orBit (r := r) (i := i) (by omega) h0 (by rw [Int.pow_succ] at h2; omega) h1
    rw [Int.pow_succ] at h2 h4
    have mod0 : r % 2 ^ i = 0 := by
      have : (2 : Int) ^ i ∣ 2 ^ (i + 1) := ⟨2, by rw [Int.pow_succ]⟩
      exact Int.emod_eq_zero_of_dvd (Int.dvd_trans this (Int.dvd_of_emod_eq_zero h1))
    have mod1 : (r + 2 ^ i) % 2 ^ i = 0 := by rw [Int.add_emod_right]; exact mod0
    have c3 : (0 ≤ (i : Int)) = True := eq_true (by omega)
    have c4 : min i 64 = i := by omega
    have c5 : IntKind.i64.wrap ((i : Int) - 1) = 31 - ((c + 1 : Nat) : Int) := (wr_eq (by omega) (by omega)).trans (by omega)
    generalize hB : (2 : Int) ^ i = B at *
    have vm := v_wMul (r + B) (r + B) (by omega) (by omega) (by omega) (by omega)
    by_cases g : (r + B) * (r + B) - n ≤ 0
    · skip
      try simp only [r42_0, r42_1, r42_2, r42_3, r42_5, r42_6, r42_7, r42_4, r42_8, c42, F42, l42_0, q4, q0, q3, c3, c4, c5, hB, eo, vm, vo, v_NCmp, cmpW, sgn_le, g, Int.toNat_natCast, go_sem, Int.reduceTMod, Int.reduceTDiv, Int.reduceDiv, Int.reduceMod, Int.reduceAdd, Int.reduceSub, Int.reduceMul, Int.reduceNeg, Int.reducePow, Int.reduceEq, ↓reduceIte, Nat.reduceEqDiff, Nat.reduceAdd, Nat.reduceMul, Nat.reduceLeDiff, Nat.reduceSub, Nat.reduceLT, Int.reduceToNat, Int.reduceLT, Int.reduceLE, reduceCtorEq]
      repeat' ((first | refine FK_split (fun h_ => ?_) (fun h_ => ?_) | refine GK_split (fun h_ => ?_) (fun h_ => ?_) | refine ite_both (fun h_ => ?_) (fun h_ => ?_)) <;> (try simp only [decide_eq_true_eq, decide_eq_false_iff_not, Bool.not_true, Bool.not_false, Bool.not_eq_true', Bool.not_eq_false', Bool.not_eq_eq_eq_not, Decidable.not_not] at h_) <;> (try simp only [r42_0, r42_1, r42_2, r42_3, r42_5, r42_6, r42_7, r42_4, r42_8, c42, F42, l42_0, q4, q0, q3, c3, c4, c5, hB, eo, vm, vo, v_NCmp, cmpW, sgn_le, g, Int.toNat_natCast, h_, go_sem, Int.reduceTMod, Int.reduceTDiv, Int.reduceDiv, Int.reduceMod, Int.reduceAdd, Int.reduceSub, Int.reduceMul, Int.reduceNeg, Int.reducePow, Int.reduceEq, ↓reduceIte, Nat.reduceEqDiff, Nat.reduceAdd, Nat.reduceMul, Nat.reduceLeDiff, Nat.reduceSub, Nat.reduceLT, Int.reduceToNat, Int.reduceLT, Int.reduceLE, reduceCtorEq]))
      refine next _ ⟨?_, ?_, r + B, ?_, by omega, by rw [e31, hB]; exact mod1, by rw [e31, hB]; omega, by omega, ?_⟩
      · simp only [go_sem, Int.reduceTMod, Int.reduceTDiv, Int.reduceDiv, Int.reduceMod, Int.reduceAdd, Int.reduceSub, Int.reduceMul, Int.reduceNeg, Int.reducePow, Int.reduceEq, ↓reduceIte, Nat.reduceEqDiff, Nat.reduceAdd, Nat.reduceMul, Nat.reduceLeDiff, Nat.reduceSub, Nat.reduceLT, Int.reduceToNat, Int.reduceLT, Int.reduceLE, reduceCtorEq]
      · simp only [q0, go_sem, Int.reduceTMod, Int.reduceTDiv, Int.reduceDiv, Int.reduceMod, Int.reduceAdd, Int.reduceSub, Int.reduceMul, Int.reduceNeg, Int.reducePow, Int.reduceEq, ↓reduceIte, Nat.reduceEqDiff, Nat.reduceAdd, Nat.reduceMul, Nat.reduceLeDiff, Nat.reduceSub, Nat.reduceLT, Int.reduceToNat, Int.reduceLT, Int.reduceLE, reduceCtorEq]
      · simp only [go_sem, Int.reduceTMod, Int.reduceTDiv, Int.reduceDiv, Int.reduceMod, Int.reduceAdd, Int.reduceSub, Int.reduceMul, Int.reduceNeg, Int.reducePow, Int.reduceEq, ↓reduceIte, Nat.reduceEqDiff, Nat.reduceAdd, Nat.reduceMul, Nat.reduceLeDiff, Nat.reduceSub, Nat.reduceLT, Int.reduceToNat, Int.reduceLT, Int.reduceLE, reduceCtorEq]
      · rw [e31, hB, show r + B + B = r + B * 2 by omega]
        exact h4
    · skip
      try simp only [r42_0, r42_1, r42_2, r42_3, r42_5, r42_6, r42_7, r42_4, r42_8, c42, F42, l42_0, q4, q0, q3, c3, c4, c5, hB, eo, vm, vo, v_NCmp, cmpW, sgn_le, g, Int.toNat_natCast, go_sem, Int.reduceTMod, Int.reduceTDiv, Int.reduceDiv, Int.reduceMod, Int.reduceAdd, Int.reduceSub, Int.reduceMul, Int.reduceNeg, Int.reducePow, Int.reduceEq, ↓reduceIte, Nat.reduceEqDiff, Nat.reduceAdd, Nat.reduceMul, Nat.reduceLeDiff, Nat.reduceSub, Nat.reduceLT, Int.reduceToNat, Int.reduceLT, Int.reduceLE, reduceCtorEq]
      repeat' ((first | refine FK_split (fun h_ => ?_) (fun h_ => ?_) | refine GK_split (fun h_ => ?_) (fun h_ => ?_) | refine ite_both (fun h_ => ?_) (fun h_ => ?_)) <;> (try simp only [decide_eq_true_eq, decide_eq_false_iff_not, Bool.not_true, Bool.not_false, Bool.not_eq_true', Bool.not_eq_false', Bool.not_eq_eq_eq_not, Decidable.not_not] at h_) <;> (try simp only [r42_0, r42_1, r42_2, r42_3, r42_5, r42_6, r42_7, r42_4, r42_8, c42, F42, l42_0, q4, q0, q3, c3, c4, c5, hB, eo, vm, vo, v_NCmp, cmpW, sgn_le, g, Int.toNat_natCast, h_, go_sem, Int.reduceTMod, Int.reduceTDiv, Int.reduceDiv, Int.reduceMod, Int.reduceAdd, Int.reduceSub, Int.reduceMul, Int.reduceNeg, Int.reducePow, Int.reduceEq, ↓reduceIte, Nat.reduceEqDiff, Nat.reduceAdd, Nat.reduceMul, Nat.reduceLeDiff, Nat.reduceSub, Nat.reduceLT, Int.reduceToNat, Int.reduceLT, Int.reduceLE, reduceCtorEq]))
      refine next _ ⟨?_, ?_, r, ?_, h0, by rw [e31, hB]; exact mod0, by rw [e31, hB]; omega, h3, ?_⟩
      · simp only [go_sem, Int.reduceTMod, Int.reduceTDiv, Int.reduceDiv, Int.reduceMod, Int.reduceAdd, Int.reduceSub, Int.reduceMul, Int.reduceNeg, Int.reducePow, Int.reduceEq, ↓reduceIte, Nat.reduceEqDiff, Nat.reduceAdd, Nat.reduceMul, Nat.reduceLeDiff, Nat.reduceSub, Nat.reduceLT, Int.reduceToNat, Int.reduceLT, Int.reduceLE, reduceCtorEq]
      · simp only [q0, go_sem, Int.reduceTMod, Int.reduceTDiv, Int.reduceDiv, Int.reduceMod, Int.reduceAdd, Int.reduceSub, Int.reduceMul, Int.reduceNeg, Int.reducePow, Int.reduceEq, ↓reduceIte, Nat.reduceEqDiff, Nat.reduceAdd, Nat.reduceMul, Nat.reduceLeDiff, Nat.reduceSub, Nat.reduceLT, Int.reduceToNat, Int.reduceLT, Int.reduceLE, reduceCtorEq]
      · simp only [q3, go_sem, Int.reduceTMod, Int.reduceTDiv, Int.reduceDiv, Int.reduceMod, Int.reduceAdd, Int.reduceSub, Int.reduceMul, Int.reduceNeg, Int.reducePow, Int.reduceEq, ↓reduceIte, Nat.reduceEqDiff, Nat.reduceAdd, Nat.reduceMul, Nat.reduceLeDiff, Nat.reduceSub, Nat.reduceLT, Int.reduceToNat, Int.reduceLT, Int.reduceLE, reduceCtorEq]
      · rw [e31, hB]; omega
  · obtain ⟨q4, q0, r, q3, h0, h1, h2, h3, h4⟩ := hs
    have e : isq n = r := isq_eq h0 h3 (by simpa using h4)
    try simp only [r42_0, r42_1, r42_2, r42_3, r42_5, r42_6, r42_7, r42_4, r42_8, c42, F42, l42_0, q4, q0, q3, e, go_sem, Int.reduceTMod, Int.reduceTDiv, Int.reduceDiv, Int.reduceMod, Int.reduceAdd, Int.reduceSub, Int.reduceMul, Int.reduceNeg, Int.reducePow, Int.reduceEq, ↓reduceIte, Nat.reduceEqDiff, Nat.reduceAdd, Nat.reduceMul, Nat.reduceLeDiff, Nat.reduceSub, Nat.reduceLT, Int.reduceToNat, Int.reduceLT, Int.reduceLE, reduceCtorEq]
    repeat' ((first | refine FK_split (fun h_ => ?_) (fun h_ => ?_) | refine GK_split (fun h_ => ?_) (fun h_ => ?_) | refine ite_both (fun h_ => ?_) (fun h_ => ?_)) <;> (try simp only [decide_eq_true_eq, decide_eq_false_iff_not, Bool.not_true, Bool.not_false, Bool.not_eq_true', Bool.not_eq_false', Bool.not_eq_eq_eq_not, Decidable.not_not] at h_) <;> (try simp only [r42_0, r42_1, r42_2, r42_3, r42_5, r42_6, r42_7, r42_4, r42_8, c42, F42, l42_0, q4, q0, q3, e, h_, go_sem, Int.reduceTMod, Int.reduceTDiv, Int.reduceDiv, Int.reduceMod, Int.reduceAdd, Int.reduceSub, Int.reduceMul, Int.reduceNeg, Int.reducePow, Int.reduceEq, ↓reduceIte, Nat.reduceEqDiff, Nat.reduceAdd, Nat.reduceMul, Nat.reduceLeDiff, Nat.reduceSub, Nat.reduceLT, Int.reduceToNat, Int.reduceLT, Int.reduceLE, reduceCtorEq]))
  · refine ⟨?_, ?_, 0, ?_, by decide, by decide, by decide, by omega, ?_⟩
    · simp only [go_sem, Int.reduceTMod, Int.reduceTDiv, Int.reduceDiv, Int.reduceMod, Int.reduceAdd, Int.reduceSub, Int.reduceMul, Int.reduceNeg, Int.reducePow, Int.reduceEq, ↓reduceIte, Nat.reduceEqDiff, Nat.reduceAdd, Nat.reduceMul, Nat.reduceLeDiff, Nat.reduceSub, Nat.reduceLT, Int.reduceToNat, Int.reduceLT, Int.reduceLE, reduceCtorEq]
    · simp only [go_sem, Int.reduceTMod, Int.reduceTDiv, Int.reduceDiv, Int.reduceMod, Int.reduceAdd, Int.reduceSub, Int.reduceMul, Int.reduceNeg, Int.reducePow, Int.reduceEq, ↓reduceIte, Nat.reduceEqDiff, Nat.reduceAdd, Nat.reduceMul, Nat.reduceLeDiff, Nat.reduceSub, Nat.reduceLT, Int.reduceToNat, Int.reduceLT, Int.reduceLE, reduceCtorEq]
    · simp only [go_sem, Int.reduceTMod, Int.reduceTDiv, Int.reduceDiv, Int.reduceMod, Int.reduceAdd, Int.reduceSub, Int.reduceMul, Int.reduceNeg, Int.reducePow, Int.reduceEq, ↓reduceIte, Nat.reduceEqDiff, Nat.reduceAdd, Nat.reduceMul, Nat.reduceLeDiff, Nat.reduceSub, Nat.reduceLT, Int.reduceToNat, Int.reduceLT, Int.reduceLE, reduceCtorEq]
    · have : ((0 : Int) + 2 ^ (32 - 0)) * (0 + 2 ^ (32 - 0)) = 18446744073709551616 := by decide
      rw [this]; omega

/- Roots: there is one; the reference's walked. Conditions: those that each theorem names. -/
open Go Go.Proofs Go.RowKit
set_option linter.unusedSimpArgs false
set_option linter.unusedVariables false

theorem isq_ex : ∀ n : Nat, ∃ q : Nat, q * q ≤ n ∧ n < (q + 1) * (q + 1)
  | 0 => ⟨0, by decide, by decide⟩
  | n + 1 => by
    obtain ⟨q, h1, h2⟩ := isq_ex n
    by_cases c : (q + 1) * (q + 1) ≤ n + 1
    · refine ⟨q + 1, c, ?_⟩
      have : (q + 1 + 1) * (q + 1 + 1) = (q + 1) * (q + 1) + (2 * q + 3) := by
        simp only [Nat.add_mul, Nat.mul_add]; omega
      omega
    · exact ⟨q, by omega, by omega⟩
theorem isq_spec {n : Int} (h : 0 ≤ n) : 0 ≤ isq n ∧ isq n * isq n ≤ n ∧ n < (isq n + 1) * (isq n + 1) := by
  obtain ⟨k, rfl⟩ := Int.eq_ofNat_of_zero_le h
  obtain ⟨q, h1, h2⟩ := isq_ex k
  have a1 : (q : Int) * q ≤ (k : Int) := by exact_mod_cast h1
  have a2 : (k : Int) < ((q : Int) + 1) * ((q : Int) + 1) := by exact_mod_cast h2
  rw [isq_eq (by omega) a1 a2]
  exact ⟨by omega, a1, a2⟩
theorem isq_le {n b : Int} (h : 0 ≤ n) (hb : 0 ≤ b) (h1 : n ≤ b * b) : isq n ≤ b := by
  obtain ⟨a1, a2, a3⟩ := isq_spec h
  rcases Int.lt_or_le b (isq n) with c | c
  · have := Int.mul_le_mul (show b + 1 ≤ isq n by omega) (show b + 1 ≤ isq n by omega) (by omega) (by omega)
    have e : (b + 1) * (b + 1) = b * b + 2 * b + 1 := by rw [Int.add_mul, Int.mul_add]; omega
    omega
  · exact c
theorem v_Root (n : Int) (hn0 : 0 ≤ n) (hn1 : n ≤ 1152921504606846976) (m : Mem) (k : Nat) : callF TA 44 [RI n] m k = some (RI (isq n)) := by
  refine callF_of (Fn_ofK (fn := F44) rfl (by simp [F44]) ?_)
  try simp only [r44_0, r44_1, r44_2, r44_3, r44_4, r44_5, r44_6, r44_7, c44, F44, go_sem, Int.reduceTMod, Int.reduceTDiv, Int.reduceDiv, Int.reduceMod, Int.reduceAdd, Int.reduceSub, Int.reduceMul, Int.reduceNeg, Int.reducePow, Int.reduceEq, ↓reduceIte, Nat.reduceEqDiff, Nat.reduceAdd, Nat.reduceMul, Nat.reduceLeDiff, Nat.reduceSub, Nat.reduceLT, Int.reduceToNat, Int.reduceLT, Int.reduceLE, reduceCtorEq]
  repeat' ((first | refine FK_split (fun h_ => ?_) (fun h_ => ?_) | refine GK_split (fun h_ => ?_) (fun h_ => ?_) | refine ite_both (fun h_ => ?_) (fun h_ => ?_)) <;> (try simp only [decide_eq_true_eq, decide_eq_false_iff_not, Bool.not_true, Bool.not_false, Bool.not_eq_true', Bool.not_eq_false', Bool.not_eq_eq_eq_not, Decidable.not_not] at h_) <;> (try simp only [r44_0, r44_1, r44_2, r44_3, r44_4, r44_5, r44_6, r44_7, c44, F44, h_, go_sem, Int.reduceTMod, Int.reduceTDiv, Int.reduceDiv, Int.reduceMod, Int.reduceAdd, Int.reduceSub, Int.reduceMul, Int.reduceNeg, Int.reducePow, Int.reduceEq, ↓reduceIte, Nat.reduceEqDiff, Nat.reduceAdd, Nat.reduceMul, Nat.reduceLeDiff, Nat.reduceSub, Nat.reduceLT, Int.reduceToNat, Int.reduceLT, Int.reduceLE, reduceCtorEq]))
  refine XK_down (inv := fun d s => s.e 0 = RI n ∧ ∃ a b : Int, s.e 3 = RI a ∧ s.e 4 = RI b ∧ (0 ≤ a ∧ a < b ∧ b ≤ 1073741825) ∧ a * a ≤ n ∧ n < b * b ∧ d = (b - a).toNat)
    (fun L _ d s hs next => ?_) 1073741825 _ ?_
  · obtain ⟨q0, a, b, q3, q4, ⟨h0, h1, h2⟩, h3, h4, h5⟩ := hs
    have w1 : IntKind.i64.wrap (b - a) = b - a := wr_eq (by omega) (by omega)
    by_cases g : 1 < b - a
    · obtain ⟨c, hc⟩ : ∃ c, c = (a + b) / 2 := ⟨_, rfl⟩
      have w2 : IntKind.i64.wrap (a + b) = a + b := wr_eq (by omega) (by omega)
      have w3 : (a + b).tdiv 2 = c := by rw [Int.tdiv_eq_ediv_of_nonneg (by omega), hc]
      have w4 : IntKind.i64.wrap c = c := wr_eq (by omega) (by omega)
      have cc : 0 ≤ c * c := Int.mul_nonneg (by omega) (by omega)
      have cb : c * c ≤ 1073741825 * 1073741825 := Int.mul_le_mul (by omega) (by omega) (by omega) (by omega)
      have w5 : IntKind.i64.wrap (c * c) = c * c := wr_eq (by omega) (by omega)
      by_cases g2 : c * c ≤ n
      · skip
        try simp only [r44_0, r44_1, r44_2, r44_3, r44_4, r44_5, r44_6, r44_7, c44, F44, l44_0, q0, q3, q4, w1, g, w2, w3, w4, w5, g2, go_sem, Int.reduceTMod, Int.reduceTDiv, Int.reduceDiv, Int.reduceMod, Int.reduceAdd, Int.reduceSub, Int.reduceMul, Int.reduceNeg, Int.reducePow, Int.reduceEq, ↓reduceIte, Nat.reduceEqDiff, Nat.reduceAdd, Nat.reduceMul, Nat.reduceLeDiff, Nat.reduceSub, Nat.reduceLT, Int.reduceToNat, Int.reduceLT, Int.reduceLE, reduceCtorEq]
        repeat' ((first | refine FK_split (fun h_ => ?_) (fun h_ => ?_) | refine GK_split (fun h_ => ?_) (fun h_ => ?_) | refine ite_both (fun h_ => ?_) (fun h_ => ?_)) <;> (try simp only [decide_eq_true_eq, decide_eq_false_iff_not, Bool.not_true, Bool.not_false, Bool.not_eq_true', Bool.not_eq_false', Bool.not_eq_eq_eq_not, Decidable.not_not] at h_) <;> (try simp only [r44_0, r44_1, r44_2, r44_3, r44_4, r44_5, r44_6, r44_7, c44, F44, l44_0, q0, q3, q4, w1, g, w2, w3, w4, w5, g2, h_, go_sem, Int.reduceTMod, Int.reduceTDiv, Int.reduceDiv, Int.reduceMod, Int.reduceAdd, Int.reduceSub, Int.reduceMul, Int.reduceNeg, Int.reducePow, Int.reduceEq, ↓reduceIte, Nat.reduceEqDiff, Nat.reduceAdd, Nat.reduceMul, Nat.reduceLeDiff, Nat.reduceSub, Nat.reduceLT, Int.reduceToNat, Int.reduceLT, Int.reduceLE, reduceCtorEq]))
        refine next (b - c).toNat _ (by omega) ⟨?_, c, b, ?_, ?_, ⟨by omega, by omega, h2⟩, g2, h4, rfl⟩
        all_goals simp only [q0, q3, q4, go_sem, Int.reduceTMod, Int.reduceTDiv, Int.reduceDiv, Int.reduceMod, Int.reduceAdd, Int.reduceSub, Int.reduceMul, Int.reduceNeg, Int.reducePow, Int.reduceEq, ↓reduceIte, Nat.reduceEqDiff, Nat.reduceAdd, Nat.reduceMul, Nat.reduceLeDiff, Nat.reduceSub, Nat.reduceLT, Int.reduceToNat, Int.reduceLT, Int.reduceLE, reduceCtorEq]
      · skip
        try simp only [r44_0, r44_1, r44_2, r44_3, r44_4, r44_5, r44_6, r44_7, c44, F44, l44_0, q0, q3, q4, w1, g, w2, w3, w4, w5, g2, go_sem, Int.reduceTMod, Int.reduceTDiv, Int.reduceDiv, Int.reduceMod, Int.reduceAdd, Int.reduceSub, Int.reduceMul, Int.reduceNeg, Int.reducePow, Int.reduceEq, ↓reduceIte, Nat.reduceEqDiff, Nat.reduceAdd, Nat.reduceMul, Nat.reduceLeDiff, Nat.reduceSub, Nat.reduceLT, Int.reduceToNat, Int.reduceLT, Int.reduceLE, reduceCtorEq]
        repeat' ((first | refine FK_split (fun h_ => ?_) (fun h_ => ?_) | refine GK_split (fun h_ => ?_) (fun h_ => ?_) | refine ite_both (fun h_ => ?_) (fun h_ => ?_)) <;> (try simp only [decide_eq_true_eq, decide_eq_false_iff_not, Bool.not_true, Bool.not_false, Bool.not_eq_true', Bool.not_eq_false', Bool.not_eq_eq_eq_not, Decidable.not_not] at h_) <;> (try simp only [r44_0, r44_1, r44_2, r44_3, r44_4, r44_5, r44_6, r44_7, c44, F44, l44_0, q0, q3, q4, w1, g, w2, w3, w4, w5, g2, h_, go_sem, Int.reduceTMod, Int.reduceTDiv, Int.reduceDiv, Int.reduceMod, Int.reduceAdd, Int.reduceSub, Int.reduceMul, Int.reduceNeg, Int.reducePow, Int.reduceEq, ↓reduceIte, Nat.reduceEqDiff, Nat.reduceAdd, Nat.reduceMul, Nat.reduceLeDiff, Nat.reduceSub, Nat.reduceLT, Int.reduceToNat, Int.reduceLT, Int.reduceLE, reduceCtorEq]))
        refine next (c - a).toNat _ (by omega) ⟨?_, a, c, ?_, ?_, ⟨by omega, by omega, by omega⟩, h3, by omega, rfl⟩
        all_goals simp only [q0, q3, q4, go_sem, Int.reduceTMod, Int.reduceTDiv, Int.reduceDiv, Int.reduceMod, Int.reduceAdd, Int.reduceSub, Int.reduceMul, Int.reduceNeg, Int.reducePow, Int.reduceEq, ↓reduceIte, Nat.reduceEqDiff, Nat.reduceAdd, Nat.reduceMul, Nat.reduceLeDiff, Nat.reduceSub, Nat.reduceLT, Int.reduceToNat, Int.reduceLT, Int.reduceLE, reduceCtorEq]
    · have hb : b = a + 1 := by omega
      subst hb
      have e : isq n = a := isq_eq h0 h3 h4
      try simp only [r44_0, r44_1, r44_2, r44_3, r44_4, r44_5, r44_6, r44_7, c44, F44, l44_0, q0, q3, q4, w1, g, e, go_sem, Int.reduceTMod, Int.reduceTDiv, Int.reduceDiv, Int.reduceMod, Int.reduceAdd, Int.reduceSub, Int.reduceMul, Int.reduceNeg, Int.reducePow, Int.reduceEq, ↓reduceIte, Nat.reduceEqDiff, Nat.reduceAdd, Nat.reduceMul, Nat.reduceLeDiff, Nat.reduceSub, Nat.reduceLT, Int.reduceToNat, Int.reduceLT, Int.reduceLE, reduceCtorEq]
      repeat' ((first | refine FK_split (fun h_ => ?_) (fun h_ => ?_) | refine GK_split (fun h_ => ?_) (fun h_ => ?_) | refine ite_both (fun h_ => ?_) (fun h_ => ?_)) <;> (try simp only [decide_eq_true_eq, decide_eq_false_iff_not, Bool.not_true, Bool.not_false, Bool.not_eq_true', Bool.not_eq_false', Bool.not_eq_eq_eq_not, Decidable.not_not] at h_) <;> (try simp only [r44_0, r44_1, r44_2, r44_3, r44_4, r44_5, r44_6, r44_7, c44, F44, l44_0, q0, q3, q4, w1, g, e, h_, go_sem, Int.reduceTMod, Int.reduceTDiv, Int.reduceDiv, Int.reduceMod, Int.reduceAdd, Int.reduceSub, Int.reduceMul, Int.reduceNeg, Int.reducePow, Int.reduceEq, ↓reduceIte, Nat.reduceEqDiff, Nat.reduceAdd, Nat.reduceMul, Nat.reduceLeDiff, Nat.reduceSub, Nat.reduceLT, Int.reduceToNat, Int.reduceLT, Int.reduceLE, reduceCtorEq]))
  · refine ⟨?_, 0, 1073741825, ?_, ?_, ⟨by omega, by omega, by omega⟩, by omega, by omega, by decide⟩
    all_goals simp only [go_sem, Int.reduceTMod, Int.reduceTDiv, Int.reduceDiv, Int.reduceMod, Int.reduceAdd, Int.reduceSub, Int.reduceMul, Int.reduceNeg, Int.reducePow, Int.reduceEq, ↓reduceIte, Nat.reduceEqDiff, Nat.reduceAdd, Nat.reduceMul, Nat.reduceLeDiff, Nat.reduceSub, Nat.reduceLT, Int.reduceToNat, Int.reduceLT, Int.reduceLE, reduceCtorEq]

/- Package wide walked: sums, signs, ints. Conditions: those that each theorem names. -/
open Go Go.Proofs
set_option linter.unusedSimpArgs false
set_option linter.unusedVariables false

/-- What a pair of words stands for. -/
abbrev vN (h l : Int) : Int := h * 18446744073709551616 + l
theorem v_Of (a : Int) (h0 : -9223372036854775808 ≤ a) (h1 : a ≤ 9223372036854775807) (m : Mem) (n : Nat) : callF TA 53 [RI a] m n = some (.agg [I (a / 9223372036854775808), U (a % 18446744073709551616)]) := by
  refine callF_of (Fn_ofK (fn := F53) rfl (by simp [F53]) ?_)
  try simp only [r53_0, r53_1, c53, F53, go_sem, Int.reduceTMod, Int.reduceTDiv, Int.reduceDiv, Int.reduceMod, Int.reduceAdd, Int.reduceSub, Int.reduceMul, Int.reduceNeg, Int.reducePow, Int.reduceEq, ↓reduceIte, Nat.reduceEqDiff, Nat.reduceAdd, Nat.reduceMul, Nat.reduceLeDiff, Nat.reduceSub, Nat.reduceLT, Int.reduceToNat, Int.reduceLT, Int.reduceLE, reduceCtorEq]
  repeat' ((first | refine FK_split (fun h_ => ?_) (fun h_ => ?_) | refine GK_split (fun h_ => ?_) (fun h_ => ?_) | refine ite_both (fun h_ => ?_) (fun h_ => ?_)) <;> (try simp only [decide_eq_true_eq, decide_eq_false_iff_not, Bool.not_true, Bool.not_false, Bool.not_eq_true', Bool.not_eq_false', Bool.not_eq_eq_eq_not, Decidable.not_not] at h_) <;> (try simp only [r53_0, r53_1, c53, F53, h_, go_sem, Int.reduceTMod, Int.reduceTDiv, Int.reduceDiv, Int.reduceMod, Int.reduceAdd, Int.reduceSub, Int.reduceMul, Int.reduceNeg, Int.reducePow, Int.reduceEq, ↓reduceIte, Nat.reduceEqDiff, Nat.reduceAdd, Nat.reduceMul, Nat.reduceLeDiff, Nat.reduceSub, Nat.reduceLT, Int.reduceToNat, Int.reduceLT, Int.reduceLE, reduceCtorEq]))
theorem wn_of (a : Int) (h0 : -9223372036854775808 ≤ a) (h1 : a ≤ 9223372036854775807) : a / 9223372036854775808 = a / 18446744073709551616 := by omega
/-- The sum's words. -/
def addH (h l h' l' : Int) : Int := IntKind.i64.wrap (h + h' + (l + l') / 18446744073709551616)
theorem v_wAdd (h l h' l' : Int) (h0 : 0 ≤ l) (h1 : l < 18446744073709551616) (h2 : 0 ≤ l') (h3 : l' < 18446744073709551616) (m : Mem) (n : Nat) :
    callF TA 66 [.agg [I h, U l], .agg [I h', U l']] m n = some (.agg [I (addH h l h' l'), U ((l + l') % 18446744073709551616)]) := by
  refine callF_of (Fn_ofK (fn := F66) rfl (by simp [F66]) ?_)
  have c0 : ((l + l') / 18446744073709551616 = 0 ∨ (l + l') / 18446744073709551616 = 1) = True := eq_true (by omega)
  have e : ∀ k, IntKind.i64.wrap ((h % 18446744073709551616 + h' % 18446744073709551616 + k) % 18446744073709551616) = IntKind.i64.wrap (h + h' + k) := by
    intro k; rw [wrapI, wrapI]; unfold Go.RowKit.wrap64; omega
  try simp only [r66_0, r66_1, r66_2, r66_3, c66, F66, h0, h1, h2, h3, c0, e, and_true, true_and, true_or, Int.le_refl, addH, Int.add_zero, go_sem, Int.reduceTMod, Int.reduceTDiv, Int.reduceDiv, Int.reduceMod, Int.reduceAdd, Int.reduceSub, Int.reduceMul, Int.reduceNeg, Int.reducePow, Int.reduceEq, ↓reduceIte, Nat.reduceEqDiff, Nat.reduceAdd, Nat.reduceMul, Nat.reduceLeDiff, Nat.reduceSub, Nat.reduceLT, Int.reduceToNat, Int.reduceLT, Int.reduceLE, reduceCtorEq]
  repeat' ((first | refine FK_split (fun h_ => ?_) (fun h_ => ?_) | refine GK_split (fun h_ => ?_) (fun h_ => ?_) | refine ite_both (fun h_ => ?_) (fun h_ => ?_)) <;> (try simp only [decide_eq_true_eq, decide_eq_false_iff_not, Bool.not_true, Bool.not_false, Bool.not_eq_true', Bool.not_eq_false', Bool.not_eq_eq_eq_not, Decidable.not_not] at h_) <;> (try simp only [r66_0, r66_1, r66_2, r66_3, c66, F66, h0, h1, h2, h3, c0, e, and_true, true_and, true_or, Int.le_refl, addH, Int.add_zero, h_, go_sem, Int.reduceTMod, Int.reduceTDiv, Int.reduceDiv, Int.reduceMod, Int.reduceAdd, Int.reduceSub, Int.reduceMul, Int.reduceNeg, Int.reducePow, Int.reduceEq, ↓reduceIte, Nat.reduceEqDiff, Nat.reduceAdd, Nat.reduceMul, Nat.reduceLeDiff, Nat.reduceSub, Nat.reduceLT, Int.reduceToNat, Int.reduceLT, Int.reduceLE, reduceCtorEq]))
theorem add_mod (h l h' l' : Int) : (vN (addH h l h' l') ((l + l') % 18446744073709551616) - (vN h l + vN h' l')) % 340282366920938463463374607431768211456 = 0 := by
  unfold addH vN
  rw [wrapI]
  unfold Go.RowKit.wrap64
  exact Int.emod_eq_zero_of_dvd ⟨-((h + h' + (l + l') / 18446744073709551616 + 9223372036854775808) / 18446744073709551616), by omega⟩
/-- The difference's words. -/
def subH (h l h' l' : Int) : Int := IntKind.i64.wrap (h - h' - if l < l' then 1 else 0)
theorem v_wSub (h l h' l' : Int) (h0 : 0 ≤ l) (h1 : l < 18446744073709551616) (h2 : 0 ≤ l') (h3 : l' < 18446744073709551616) (m : Mem) (n : Nat) :
    callF TA 71 [.agg [I h, U l], .agg [I h', U l']] m n = some (.agg [I (subH h l h' l'), U ((l - l') % 18446744073709551616)]) := by
  refine callF_of (Fn_ofK (fn := F71) rfl (by simp [F71]) ?_)
  have e : ∀ k, IntKind.i64.wrap ((h % 18446744073709551616 - h' % 18446744073709551616 - k) % 18446744073709551616) = IntKind.i64.wrap (h - h' - k) := by
    intro k; rw [wrapI, wrapI]; unfold Go.RowKit.wrap64; omega
  have e0 := e 0
  simp only [Int.sub_zero] at e0
  by_cases c : l < l'
  all_goals
    try simp only [r71_0, r71_1, r71_2, r71_3, c71, F71, e0, h0, h1, h2, h3, c, e, and_true, true_and, true_or, or_true, Int.le_refl, subH, Int.add_zero, Int.sub_zero, go_sem, Int.reduceTMod, Int.reduceTDiv, Int.reduceDiv, Int.reduceMod, Int.reduceAdd, Int.reduceSub, Int.reduceMul, Int.reduceNeg, Int.reducePow, Int.reduceEq, ↓reduceIte, Nat.reduceEqDiff, Nat.reduceAdd, Nat.reduceMul, Nat.reduceLeDiff, Nat.reduceSub, Nat.reduceLT, Int.reduceToNat, Int.reduceLT, Int.reduceLE, reduceCtorEq]
    repeat' ((first | refine FK_split (fun h_ => ?_) (fun h_ => ?_) | refine GK_split (fun h_ => ?_) (fun h_ => ?_) | refine ite_both (fun h_ => ?_) (fun h_ => ?_)) <;> (try simp only [decide_eq_true_eq, decide_eq_false_iff_not, Bool.not_true, Bool.not_false, Bool.not_eq_true', Bool.not_eq_false', Bool.not_eq_eq_eq_not, Decidable.not_not] at h_) <;> (try simp only [r71_0, r71_1, r71_2, r71_3, c71, F71, e0, h0, h1, h2, h3, c, e, and_true, true_and, true_or, or_true, Int.le_refl, subH, Int.add_zero, Int.sub_zero, h_, go_sem, Int.reduceTMod, Int.reduceTDiv, Int.reduceDiv, Int.reduceMod, Int.reduceAdd, Int.reduceSub, Int.reduceMul, Int.reduceNeg, Int.reducePow, Int.reduceEq, ↓reduceIte, Nat.reduceEqDiff, Nat.reduceAdd, Nat.reduceMul, Nat.reduceLeDiff, Nat.reduceSub, Nat.reduceLT, Int.reduceToNat, Int.reduceLT, Int.reduceLE, reduceCtorEq]))
theorem sub_mod (h l h' l' : Int) (h0 : 0 ≤ l) (h1 : l < 18446744073709551616) (h2 : 0 ≤ l') (h3 : l' < 18446744073709551616) : (vN (subH h l h' l') ((l - l') % 18446744073709551616) - (vN h l - vN h' l')) % 340282366920938463463374607431768211456 = 0 := by
  unfold subH vN
  rw [wrapI]
  unfold Go.RowKit.wrap64
  split
  · exact Int.emod_eq_zero_of_dvd ⟨-((h - h' - 1 + 9223372036854775808) / 18446744073709551616), by omega⟩
  · exact Int.emod_eq_zero_of_dvd ⟨-((h - h' - 0 + 9223372036854775808) / 18446744073709551616), by omega⟩
theorem v_wNeg (h l : Int) (h0 : 0 ≤ l) (h1 : l < 18446744073709551616) (m : Mem) (n : Nat) :
    callF TA 67 [.agg [I h, U l]] m n = some (.agg [I (subH 0 0 h l), U ((0 - l) % 18446744073709551616)]) := by
  refine callF_of (Fn_ofK (fn := F67) rfl (by simp [F67]) ?_)
  have e := v_wSub 0 0 h l (by omega) (by omega) h0 h1
  try simp only [r67_0, r67_1, c67, F67, e, go_sem, Int.reduceTMod, Int.reduceTDiv, Int.reduceDiv, Int.reduceMod, Int.reduceAdd, Int.reduceSub, Int.reduceMul, Int.reduceNeg, Int.reducePow, Int.reduceEq, ↓reduceIte, Nat.reduceEqDiff, Nat.reduceAdd, Nat.reduceMul, Nat.reduceLeDiff, Nat.reduceSub, Nat.reduceLT, Int.reduceToNat, Int.reduceLT, Int.reduceLE, reduceCtorEq]
  repeat' ((first | refine FK_split (fun h_ => ?_) (fun h_ => ?_) | refine GK_split (fun h_ => ?_) (fun h_ => ?_) | refine ite_both (fun h_ => ?_) (fun h_ => ?_)) <;> (try simp only [decide_eq_true_eq, decide_eq_false_iff_not, Bool.not_true, Bool.not_false, Bool.not_eq_true', Bool.not_eq_false', Bool.not_eq_eq_eq_not, Decidable.not_not] at h_) <;> (try simp only [r67_0, r67_1, c67, F67, e, h_, go_sem, Int.reduceTMod, Int.reduceTDiv, Int.reduceDiv, Int.reduceMod, Int.reduceAdd, Int.reduceSub, Int.reduceMul, Int.reduceNeg, Int.reducePow, Int.reduceEq, ↓reduceIte, Nat.reduceEqDiff, Nat.reduceAdd, Nat.reduceMul, Nat.reduceLeDiff, Nat.reduceSub, Nat.reduceLT, Int.reduceToNat, Int.reduceLT, Int.reduceLE, reduceCtorEq]))
theorem v_wInt (h l : Int) (h0 : 0 ≤ l) (h1 : l < 18446744073709551616) (m : Mem) (n : Nat) :
    callF TA 68 [.agg [I h, U l]] m n = some (if h = IntKind.i64.wrap l / 9223372036854775808 then .tup [RI (IntKind.i64.wrap l), RB true] else .tup [RI 0, RB false]) := by
  refine callF_of (Fn_ofK (fn := F68) rfl (by simp [F68]) ?_)
  obtain ⟨t, ht⟩ : ∃ t, t = IntKind.i64.wrap l := ⟨_, rfl⟩
  have hb : (-9223372036854775808 ≤ t ∧ t ≤ 9223372036854775807) ∧ t % 18446744073709551616 = l := by rw [ht, wrapI]; unfold Go.RowKit.wrap64; omega
  have o := v_Of t hb.1.1 hb.1.2
  rw [hb.2] at o
  by_cases c : h = t / 9223372036854775808
  · have c' : (h == t / 9223372036854775808) = true := by simpa using c
    rw [if_pos (by rw [← ht]; exact c)]
    try simp only [r68_0, r68_1, r68_2, r68_3, r68_4, c68, F68, ← ht, o, c', Bool.and_self, Bool.and_true, Bool.true_and, go_sem, Int.reduceTMod, Int.reduceTDiv, Int.reduceDiv, Int.reduceMod, Int.reduceAdd, Int.reduceSub, Int.reduceMul, Int.reduceNeg, Int.reducePow, Int.reduceEq, ↓reduceIte, Nat.reduceEqDiff, Nat.reduceAdd, Nat.reduceMul, Nat.reduceLeDiff, Nat.reduceSub, Nat.reduceLT, Int.reduceToNat, Int.reduceLT, Int.reduceLE, reduceCtorEq]
    repeat' ((first | refine FK_split (fun h_ => ?_) (fun h_ => ?_) | refine GK_split (fun h_ => ?_) (fun h_ => ?_) | refine ite_both (fun h_ => ?_) (fun h_ => ?_)) <;> (try simp only [decide_eq_true_eq, decide_eq_false_iff_not, Bool.not_true, Bool.not_false, Bool.not_eq_true', Bool.not_eq_false', Bool.not_eq_eq_eq_not, Decidable.not_not] at h_) <;> (try simp only [r68_0, r68_1, r68_2, r68_3, r68_4, c68, F68, ← ht, o, c', Bool.and_self, Bool.and_true, Bool.true_and, h_, go_sem, Int.reduceTMod, Int.reduceTDiv, Int.reduceDiv, Int.reduceMod, Int.reduceAdd, Int.reduceSub, Int.reduceMul, Int.reduceNeg, Int.reducePow, Int.reduceEq, ↓reduceIte, Nat.reduceEqDiff, Nat.reduceAdd, Nat.reduceMul, Nat.reduceLeDiff, Nat.reduceSub, Nat.reduceLT, Int.reduceToNat, Int.reduceLT, Int.reduceLE, reduceCtorEq]))
  · have c' : (h == t / 9223372036854775808) = false := by simpa using c
    rw [if_neg (by rw [← ht]; exact c)]
    try simp only [r68_0, r68_1, r68_2, r68_3, r68_4, c68, F68, ← ht, o, c', Bool.and_self, Bool.and_true, Bool.true_and, go_sem, Int.reduceTMod, Int.reduceTDiv, Int.reduceDiv, Int.reduceMod, Int.reduceAdd, Int.reduceSub, Int.reduceMul, Int.reduceNeg, Int.reducePow, Int.reduceEq, ↓reduceIte, Nat.reduceEqDiff, Nat.reduceAdd, Nat.reduceMul, Nat.reduceLeDiff, Nat.reduceSub, Nat.reduceLT, Int.reduceToNat, Int.reduceLT, Int.reduceLE, reduceCtorEq]
    repeat' ((first | refine FK_split (fun h_ => ?_) (fun h_ => ?_) | refine GK_split (fun h_ => ?_) (fun h_ => ?_) | refine ite_both (fun h_ => ?_) (fun h_ => ?_)) <;> (try simp only [decide_eq_true_eq, decide_eq_false_iff_not, Bool.not_true, Bool.not_false, Bool.not_eq_true', Bool.not_eq_false', Bool.not_eq_eq_eq_not, Decidable.not_not] at h_) <;> (try simp only [r68_0, r68_1, r68_2, r68_3, r68_4, c68, F68, ← ht, o, c', Bool.and_self, Bool.and_true, Bool.true_and, h_, go_sem, Int.reduceTMod, Int.reduceTDiv, Int.reduceDiv, Int.reduceMod, Int.reduceAdd, Int.reduceSub, Int.reduceMul, Int.reduceNeg, Int.reducePow, Int.reduceEq, ↓reduceIte, Nat.reduceEqDiff, Nat.reduceAdd, Nat.reduceMul, Nat.reduceLeDiff, Nat.reduceSub, Nat.reduceLT, Int.reduceToNat, Int.reduceLT, Int.reduceLE, reduceCtorEq]))

/- Package wide walked: a quotient. Conditions: those that each theorem names. -/
open Go Go.Proofs
set_option linter.unusedSimpArgs false
set_option linter.unusedVariables false

theorem v_size (x : Int) (h0 : -9223372036854775808 ≤ x) (h1 : x ≤ 9223372036854775807) (m : Mem) (n : Nat) : callF TA 64 [RI x] m n = some (RU (if x < 0 then -x else x)) := by
  refine callF_of (Fn_ofK (fn := F64) rfl (by simp [F64]) ?_)
  by_cases c : x < 0
  · have e : (0 - x % 18446744073709551616) % 18446744073709551616 = -x := by omega
    try simp only [r64_0, r64_1, r64_2, r64_3, c64, F64, c, e, go_sem, Int.reduceTMod, Int.reduceTDiv, Int.reduceDiv, Int.reduceMod, Int.reduceAdd, Int.reduceSub, Int.reduceMul, Int.reduceNeg, Int.reducePow, Int.reduceEq, ↓reduceIte, Nat.reduceEqDiff, Nat.reduceAdd, Nat.reduceMul, Nat.reduceLeDiff, Nat.reduceSub, Nat.reduceLT, Int.reduceToNat, Int.reduceLT, Int.reduceLE, reduceCtorEq]
    repeat' ((first | refine FK_split (fun h_ => ?_) (fun h_ => ?_) | refine GK_split (fun h_ => ?_) (fun h_ => ?_) | refine ite_both (fun h_ => ?_) (fun h_ => ?_)) <;> (try simp only [decide_eq_true_eq, decide_eq_false_iff_not, Bool.not_true, Bool.not_false, Bool.not_eq_true', Bool.not_eq_false', Bool.not_eq_eq_eq_not, Decidable.not_not] at h_) <;> (try simp only [r64_0, r64_1, r64_2, r64_3, c64, F64, c, e, h_, go_sem, Int.reduceTMod, Int.reduceTDiv, Int.reduceDiv, Int.reduceMod, Int.reduceAdd, Int.reduceSub, Int.reduceMul, Int.reduceNeg, Int.reducePow, Int.reduceEq, ↓reduceIte, Nat.reduceEqDiff, Nat.reduceAdd, Nat.reduceMul, Nat.reduceLeDiff, Nat.reduceSub, Nat.reduceLT, Int.reduceToNat, Int.reduceLT, Int.reduceLE, reduceCtorEq]))
  · have e : x % 18446744073709551616 = x := by omega
    try simp only [r64_0, r64_1, r64_2, r64_3, c64, F64, c, e, go_sem, Int.reduceTMod, Int.reduceTDiv, Int.reduceDiv, Int.reduceMod, Int.reduceAdd, Int.reduceSub, Int.reduceMul, Int.reduceNeg, Int.reducePow, Int.reduceEq, ↓reduceIte, Nat.reduceEqDiff, Nat.reduceAdd, Nat.reduceMul, Nat.reduceLeDiff, Nat.reduceSub, Nat.reduceLT, Int.reduceToNat, Int.reduceLT, Int.reduceLE, reduceCtorEq]
    repeat' ((first | refine FK_split (fun h_ => ?_) (fun h_ => ?_) | refine GK_split (fun h_ => ?_) (fun h_ => ?_) | refine ite_both (fun h_ => ?_) (fun h_ => ?_)) <;> (try simp only [decide_eq_true_eq, decide_eq_false_iff_not, Bool.not_true, Bool.not_false, Bool.not_eq_true', Bool.not_eq_false', Bool.not_eq_eq_eq_not, Decidable.not_not] at h_) <;> (try simp only [r64_0, r64_1, r64_2, r64_3, c64, F64, c, e, h_, go_sem, Int.reduceTMod, Int.reduceTDiv, Int.reduceDiv, Int.reduceMod, Int.reduceAdd, Int.reduceSub, Int.reduceMul, Int.reduceNeg, Int.reducePow, Int.reduceEq, ↓reduceIte, Nat.reduceEqDiff, Nat.reduceAdd, Nat.reduceMul, Nat.reduceLeDiff, Nat.reduceSub, Nat.reduceLT, Int.reduceToNat, Int.reduceLT, Int.reduceLE, reduceCtorEq]))
theorem v_Div64 (lo y : Int) (h0 : 0 ≤ lo) (h1 : lo < 18446744073709551616) (hy : 0 < y) (m : Mem) (n : Nat) : callF TA 65 [RU 0, RU lo, RU y] m n = some (.tup [RU (lo / y), RU (lo % y)]) := by
  refine callF_of (Fn_ofK (fn := F65) rfl (by simp [F65]) ?_)
  have z : (y = 0) = False := eq_false (by omega)
  have z2 : (y ≤ 0) = False := eq_false (by omega)
  have e1 : lo.tdiv y = lo / y := Int.tdiv_eq_ediv_of_nonneg h0
  have e2 : lo.tmod y = lo % y := Int.tmod_eq_emod_of_nonneg h0
  have e3 : lo / y % 18446744073709551616 = lo / y := by
    have k1 := Int.ediv_le_self y h0
    have k2 := Int.ediv_nonneg h0 (Int.le_of_lt hy)
    omega
  try simp only [r65_0, r65_1, r65_2, r65_3, r65_4, r65_5, r65_6, r65_7, r65_8, r65_9, r65_10, r65_11, r65_12, r65_13, r65_14, r65_15, r65_16, r65_17, r65_18, r65_19, r65_20, r65_21, r65_22, r65_23, r65_24, r65_25, r65_26, r65_27, r65_28, c65, F65, z, z2, e1, e2, e3, go_sem, Int.reduceTMod, Int.reduceTDiv, Int.reduceDiv, Int.reduceMod, Int.reduceAdd, Int.reduceSub, Int.reduceMul, Int.reduceNeg, Int.reducePow, Int.reduceEq, ↓reduceIte, Nat.reduceEqDiff, Nat.reduceAdd, Nat.reduceMul, Nat.reduceLeDiff, Nat.reduceSub, Nat.reduceLT, Int.reduceToNat, Int.reduceLT, Int.reduceLE, reduceCtorEq]
  repeat' ((first | refine FK_split (fun h_ => ?_) (fun h_ => ?_) | refine GK_split (fun h_ => ?_) (fun h_ => ?_) | refine ite_both (fun h_ => ?_) (fun h_ => ?_)) <;> (try simp only [decide_eq_true_eq, decide_eq_false_iff_not, Bool.not_true, Bool.not_false, Bool.not_eq_true', Bool.not_eq_false', Bool.not_eq_eq_eq_not, Decidable.not_not] at h_) <;> (try simp only [r65_0, r65_1, r65_2, r65_3, r65_4, r65_5, r65_6, r65_7, r65_8, r65_9, r65_10, r65_11, r65_12, r65_13, r65_14, r65_15, r65_16, r65_17, r65_18, r65_19, r65_20, r65_21, r65_22, r65_23, r65_24, r65_25, r65_26, r65_27, r65_28, c65, F65, z, z2, e1, e2, e3, h_, go_sem, Int.reduceTMod, Int.reduceTDiv, Int.reduceDiv, Int.reduceMod, Int.reduceAdd, Int.reduceSub, Int.reduceMul, Int.reduceNeg, Int.reducePow, Int.reduceEq, ↓reduceIte, Nat.reduceEqDiff, Nat.reduceAdd, Nat.reduceMul, Nat.reduceLeDiff, Nat.reduceSub, Nat.reduceLT, Int.reduceToNat, Int.reduceLT, Int.reduceLE, reduceCtorEq]))
/-- One times b over d, rounded down (d above 0). -/
theorem v_MulDiv1 (b d : Int) (hb : -4611686018427387904 ≤ b ∧ b ≤ 4611686018427387904) (hd : 0 < d) (hd2 : d ≤ 4611686018427387904) (m : Mem) (n : Nat) :
    ∃ ex : Bool, callF TA 61 [RI 1, RI b, RI d] m n = some (.tup [RI (b / d), RB ex, RI 0]) := by
  obtain ⟨B, hB⟩ : ∃ B, B = (if b < 0 then -b else b) := ⟨_, rfl⟩
  have s1 := v_size 1 (by decide) (by decide)
  rw [if_neg (by decide)] at s1
  have s2 := v_size b (by omega) (by omega)
  rw [← hB] at s2
  have s3 := v_size d (by omega) (by omega)
  rw [if_neg (by omega)] at s3
  have hB0 : 0 ≤ B ∧ B ≤ 4611686018427387904 := by rw [hB]; split <;> omega
  have m1 := v_Mul64 1 B (by decide) (by decide) hB0.1 (by omega)
  rw [show 1 * B / 18446744073709551616 = 0 by omega, show 1 * B % 18446744073709551616 = B by omega] at m1
  have dv := v_Div64 B d hB0.1 (by omega) hd
  have q0 := Int.ediv_nonneg hB0.1 (Int.le_of_lt hd)
  have q1 := Int.ediv_le_self d hB0.1
  have r0 := Int.emod_nonneg B (Int.ne_of_gt hd)
  have r1 := Int.emod_lt_of_pos B hd
  have eB := Int.mul_ediv_add_emod B d
  have z : (d = 0) = False := eq_false (by omega)
  have z2 : (d ≤ 0) = False := eq_false (by omega)
  have z3 : (d < 0) = False := eq_false (by omega)
  have one := v_Of 1 (by decide) (by decide)
  have ints : ∀ x : Int, -4611686018427387905 ≤ x → x ≤ 4611686018427387905 → ∀ m n, callF TA 68 [.agg [I (x / 18446744073709551616), U (x % 18446744073709551616)]] m n = some (.tup [RI x, RB true]) := by
    intro x hx1 hx2 m n
    rw [v_wInt _ _ (by omega) (by omega)]
    have ew : IntKind.i64.wrap (x % 18446744073709551616) = x := by rw [wrapI]; unfold Go.RowKit.wrap64; omega
    rw [ew, if_pos (by omega)]
  generalize hq : B / d = q at *
  generalize hr : B % d = r at *
  by_cases c : b < 0
  · have hBb : B = -b := by rw [hB, if_pos c]
    by_cases c2 : 0 < r
    · have e : b / d = -(q + 1) := by
        have : b = (d - r) + d * (-(q + 1)) := by rw [Int.mul_neg, Int.mul_add]; omega
        rw [this, Int.add_mul_ediv_left _ _ (by omega), Int.ediv_eq_zero_of_lt (by omega) (by omega)]
        omega
      have ad := v_wAdd 0 q 0 1 q0 (by omega) (by decide) (by decide)
      have a1 : addH 0 q 0 1 = 0 := by
        unfold addH
        rw [show 0 + 0 + (q + 1) / 18446744073709551616 = 0 by omega]
        rfl
      rw [a1, show (q + 1) % 18446744073709551616 = q + 1 by omega] at ad
      have ng := v_wNeg 0 (q + 1) (by omega) (by omega)
      have n1 : subH 0 0 0 (q + 1) = b / d / 18446744073709551616 := by
        unfold subH
        rw [if_pos (by omega), e]
        have : IntKind.i64.wrap (0 - 0 - 1) = -1 := rfl
        rw [this]; omega
      have n2 : (0 - (q + 1)) % 18446744073709551616 = b / d % 18446744073709551616 := by rw [e]; omega
      rw [n1, n2] at ng
      have it := ints (b / d) (by omega) (by omega)
      refine ⟨decide (r = 0), callF_of (Fn_ofK (fn := F61) rfl (by simp [F61]) ?_)⟩
      try simp only [r61_0, r61_1, r61_2, r61_3, r61_4, r61_5, r61_6, r61_7, r61_8, r61_9, r61_10, r61_11, r61_12, r61_13, r61_14, r61_15, c61, F61, s1, s2, s3, m1, dv, z, z2, z3, c, c2, one, ad, ng, it, go_sem, Int.reduceTMod, Int.reduceTDiv, Int.reduceDiv, Int.reduceMod, Int.reduceAdd, Int.reduceSub, Int.reduceMul, Int.reduceNeg, Int.reducePow, Int.reduceEq, ↓reduceIte, Nat.reduceEqDiff, Nat.reduceAdd, Nat.reduceMul, Nat.reduceLeDiff, Nat.reduceSub, Nat.reduceLT, Int.reduceToNat, Int.reduceLT, Int.reduceLE, reduceCtorEq]
      repeat' ((first | refine FK_split (fun h_ => ?_) (fun h_ => ?_) | refine GK_split (fun h_ => ?_) (fun h_ => ?_) | refine ite_both (fun h_ => ?_) (fun h_ => ?_)) <;> (try simp only [decide_eq_true_eq, decide_eq_false_iff_not, Bool.not_true, Bool.not_false, Bool.not_eq_true', Bool.not_eq_false', Bool.not_eq_eq_eq_not, Decidable.not_not] at h_) <;> (try simp only [r61_0, r61_1, r61_2, r61_3, r61_4, r61_5, r61_6, r61_7, r61_8, r61_9, r61_10, r61_11, r61_12, r61_13, r61_14, r61_15, c61, F61, s1, s2, s3, m1, dv, z, z2, z3, c, c2, one, ad, ng, it, h_, go_sem, Int.reduceTMod, Int.reduceTDiv, Int.reduceDiv, Int.reduceMod, Int.reduceAdd, Int.reduceSub, Int.reduceMul, Int.reduceNeg, Int.reducePow, Int.reduceEq, ↓reduceIte, Nat.reduceEqDiff, Nat.reduceAdd, Nat.reduceMul, Nat.reduceLeDiff, Nat.reduceSub, Nat.reduceLT, Int.reduceToNat, Int.reduceLT, Int.reduceLE, reduceCtorEq]))
    · have hr0 : r = 0 := by omega
      have e : b / d = -q := by
        have : b = d * (-q) := by rw [Int.mul_neg]; omega
        rw [this, Int.mul_ediv_cancel_left _ (by omega)]
      have ng := v_wNeg 0 q q0 (by omega)
      have n1 : subH 0 0 0 q = b / d / 18446744073709551616 := by
        unfold subH
        rw [e]
        by_cases cq : 0 < q
        · rw [if_pos cq]
          have : IntKind.i64.wrap (0 - 0 - 1) = -1 := rfl
          rw [this]; omega
        · rw [if_neg cq]
          have : IntKind.i64.wrap (0 - 0 - 0) = 0 := rfl
          rw [this]; omega
      have n2 : (0 - q) % 18446744073709551616 = b / d % 18446744073709551616 := by rw [e]; omega
      rw [n1, n2] at ng
      have it := ints (b / d) (by omega) (by omega)
      refine ⟨decide (r = 0), callF_of (Fn_ofK (fn := F61) rfl (by simp [F61]) ?_)⟩
      try simp only [r61_0, r61_1, r61_2, r61_3, r61_4, r61_5, r61_6, r61_7, r61_8, r61_9, r61_10, r61_11, r61_12, r61_13, r61_14, r61_15, c61, F61, s1, s2, s3, m1, dv, z, z2, z3, c, c2, one, ng, it, go_sem, Int.reduceTMod, Int.reduceTDiv, Int.reduceDiv, Int.reduceMod, Int.reduceAdd, Int.reduceSub, Int.reduceMul, Int.reduceNeg, Int.reducePow, Int.reduceEq, ↓reduceIte, Nat.reduceEqDiff, Nat.reduceAdd, Nat.reduceMul, Nat.reduceLeDiff, Nat.reduceSub, Nat.reduceLT, Int.reduceToNat, Int.reduceLT, Int.reduceLE, reduceCtorEq]
      repeat' ((first | refine FK_split (fun h_ => ?_) (fun h_ => ?_) | refine GK_split (fun h_ => ?_) (fun h_ => ?_) | refine ite_both (fun h_ => ?_) (fun h_ => ?_)) <;> (try simp only [decide_eq_true_eq, decide_eq_false_iff_not, Bool.not_true, Bool.not_false, Bool.not_eq_true', Bool.not_eq_false', Bool.not_eq_eq_eq_not, Decidable.not_not] at h_) <;> (try simp only [r61_0, r61_1, r61_2, r61_3, r61_4, r61_5, r61_6, r61_7, r61_8, r61_9, r61_10, r61_11, r61_12, r61_13, r61_14, r61_15, c61, F61, s1, s2, s3, m1, dv, z, z2, z3, c, c2, one, ng, it, h_, go_sem, Int.reduceTMod, Int.reduceTDiv, Int.reduceDiv, Int.reduceMod, Int.reduceAdd, Int.reduceSub, Int.reduceMul, Int.reduceNeg, Int.reducePow, Int.reduceEq, ↓reduceIte, Nat.reduceEqDiff, Nat.reduceAdd, Nat.reduceMul, Nat.reduceLeDiff, Nat.reduceSub, Nat.reduceLT, Int.reduceToNat, Int.reduceLT, Int.reduceLE, reduceCtorEq]))
  · have hBb : B = b := by rw [hB, if_neg c]
    have e : b / d = q := by rw [← hq, hBb]
    have it := ints (b / d) (by omega) (by omega)
    rw [show b / d / 18446744073709551616 = 0 by omega, show b / d % 18446744073709551616 = q by omega] at it
    refine ⟨decide (r = 0), callF_of (Fn_ofK (fn := F61) rfl (by simp [F61]) ?_)⟩
    try simp only [r61_0, r61_1, r61_2, r61_3, r61_4, r61_5, r61_6, r61_7, r61_8, r61_9, r61_10, r61_11, r61_12, r61_13, r61_14, r61_15, c61, F61, s1, s2, s3, m1, dv, z, z2, z3, c, it, go_sem, Int.reduceTMod, Int.reduceTDiv, Int.reduceDiv, Int.reduceMod, Int.reduceAdd, Int.reduceSub, Int.reduceMul, Int.reduceNeg, Int.reducePow, Int.reduceEq, ↓reduceIte, Nat.reduceEqDiff, Nat.reduceAdd, Nat.reduceMul, Nat.reduceLeDiff, Nat.reduceSub, Nat.reduceLT, Int.reduceToNat, Int.reduceLT, Int.reduceLE, reduceCtorEq]
    repeat' ((first | refine FK_split (fun h_ => ?_) (fun h_ => ?_) | refine GK_split (fun h_ => ?_) (fun h_ => ?_) | refine ite_both (fun h_ => ?_) (fun h_ => ?_)) <;> (try simp only [decide_eq_true_eq, decide_eq_false_iff_not, Bool.not_true, Bool.not_false, Bool.not_eq_true', Bool.not_eq_false', Bool.not_eq_eq_eq_not, Decidable.not_not] at h_) <;> (try simp only [r61_0, r61_1, r61_2, r61_3, r61_4, r61_5, r61_6, r61_7, r61_8, r61_9, r61_10, r61_11, r61_12, r61_13, r61_14, r61_15, c61, F61, s1, s2, s3, m1, dv, z, z2, z3, c, it, h_, go_sem, Int.reduceTMod, Int.reduceTDiv, Int.reduceDiv, Int.reduceMod, Int.reduceAdd, Int.reduceSub, Int.reduceMul, Int.reduceNeg, Int.reducePow, Int.reduceEq, ↓reduceIte, Nat.reduceEqDiff, Nat.reduceAdd, Nat.reduceMul, Nat.reduceLeDiff, Nat.reduceSub, Nat.reduceLT, Int.reduceToNat, Int.reduceLT, Int.reduceLE, reduceCtorEq]))

/- Lengths and places on lines walked (chapter 09). Conditions: those that each theorem names. -/
open Go Go.Proofs
set_option linter.unusedSimpArgs false
set_option linter.unusedVariables false

theorem v_rLength (ax ay bx b_y : Int) (ha : inP ⟨ax, ay⟩ = true) (hb : inP ⟨bx, b_y⟩ = true) (hl : longB (bx - ax) (b_y - ay) = false) (m : Mem) (n : Nat) :
    callF TA 27 [.agg [I ax, I ay], .agg [I bx, I b_y]] m n = some (RI (isq ((bx - ax) * (bx - ax) + (b_y - ay) * (b_y - ay)))) := by
  refine callF_of (Fn_ofK (fn := F27) rfl (by simp [F27]) ?_)
  obtain ⟨w1, w2⟩ := sub_wrap ha hb
  have sq := sq_bd hl
  generalize hgx : bx - ax = x at *
  generalize hgy : b_y - ay = y at *
  have w3 : IntKind.i64.wrap (x * x) = x * x := wr_eq (by omega) (by omega)
  have w4 : IntKind.i64.wrap (y * y) = y * y := wr_eq (by omega) (by omega)
  have w5 : IntKind.i64.wrap (x * x + y * y) = x * x + y * y := wr_eq (by omega) (by omega)
  have vr := v_Root (x * x + y * y) (by omega) (by omega)
  try simp only [r27_0, r27_1, r27_2, c27, F27, hgx, hgy, w1, w2, w3, w4, w5, vr, go_sem, Int.reduceTMod, Int.reduceTDiv, Int.reduceDiv, Int.reduceMod, Int.reduceAdd, Int.reduceSub, Int.reduceMul, Int.reduceNeg, Int.reducePow, Int.reduceEq, ↓reduceIte, Nat.reduceEqDiff, Nat.reduceAdd, Nat.reduceMul, Nat.reduceLeDiff, Nat.reduceSub, Nat.reduceLT, Int.reduceToNat, Int.reduceLT, Int.reduceLE, reduceCtorEq]
  repeat' ((first | refine FK_split (fun h_ => ?_) (fun h_ => ?_) | refine GK_split (fun h_ => ?_) (fun h_ => ?_) | refine ite_both (fun h_ => ?_) (fun h_ => ?_)) <;> (try simp only [decide_eq_true_eq, decide_eq_false_iff_not, Bool.not_true, Bool.not_false, Bool.not_eq_true', Bool.not_eq_false', Bool.not_eq_eq_eq_not, Decidable.not_not] at h_) <;> (try simp only [r27_0, r27_1, r27_2, c27, F27, hgx, hgy, w1, w2, w3, w4, w5, vr, h_, go_sem, Int.reduceTMod, Int.reduceTDiv, Int.reduceDiv, Int.reduceMod, Int.reduceAdd, Int.reduceSub, Int.reduceMul, Int.reduceNeg, Int.reducePow, Int.reduceEq, ↓reduceIte, Nat.reduceEqDiff, Nat.reduceAdd, Nat.reduceMul, Nat.reduceLeDiff, Nat.reduceSub, Nat.reduceLT, Int.reduceToNat, Int.reduceLT, Int.reduceLE, reduceCtorEq]))
theorem v_Length (ax ay bx b_y : Int) (m : Mem) (n : Nat) : callF TA 22 [.agg [I ax, I ay], .agg [I bx, I b_y]] m n = some (if (inP ⟨ax, ay⟩ && inP ⟨bx, b_y⟩) = true then
      (if longB (bx - ax) (b_y - ay) = true then .tup [RI 0, RI 10] else .tup [RI (isq ((bx - ax) * (bx - ax) + (b_y - ay) * (b_y - ay))), RI 0]) else .tup [RI 0, RI 30]) := by
  refine callF_of (Fn_ofK (fn := F22) rfl (by simp [F22]) ?_)
  cases ha : inP ⟨ax, ay⟩
  · rw [if_neg (by simp)]
    try simp only [r22_0, r22_1, r22_2, r22_3, r22_4, r22_5, r22_6, c22, F22, v_PIn, ha, go_sem, Int.reduceTMod, Int.reduceTDiv, Int.reduceDiv, Int.reduceMod, Int.reduceAdd, Int.reduceSub, Int.reduceMul, Int.reduceNeg, Int.reducePow, Int.reduceEq, ↓reduceIte, Nat.reduceEqDiff, Nat.reduceAdd, Nat.reduceMul, Nat.reduceLeDiff, Nat.reduceSub, Nat.reduceLT, Int.reduceToNat, Int.reduceLT, Int.reduceLE, reduceCtorEq]
    repeat' ((first | refine FK_split (fun h_ => ?_) (fun h_ => ?_) | refine GK_split (fun h_ => ?_) (fun h_ => ?_) | refine ite_both (fun h_ => ?_) (fun h_ => ?_)) <;> (try simp only [decide_eq_true_eq, decide_eq_false_iff_not, Bool.not_true, Bool.not_false, Bool.not_eq_true', Bool.not_eq_false', Bool.not_eq_eq_eq_not, Decidable.not_not] at h_) <;> (try simp only [r22_0, r22_1, r22_2, r22_3, r22_4, r22_5, r22_6, c22, F22, v_PIn, ha, h_, go_sem, Int.reduceTMod, Int.reduceTDiv, Int.reduceDiv, Int.reduceMod, Int.reduceAdd, Int.reduceSub, Int.reduceMul, Int.reduceNeg, Int.reducePow, Int.reduceEq, ↓reduceIte, Nat.reduceEqDiff, Nat.reduceAdd, Nat.reduceMul, Nat.reduceLeDiff, Nat.reduceSub, Nat.reduceLT, Int.reduceToNat, Int.reduceLT, Int.reduceLE, reduceCtorEq]))
  · cases hb : inP ⟨bx, b_y⟩
    · rw [if_neg (by simp)]
      try simp only [r22_0, r22_1, r22_2, r22_3, r22_4, r22_5, r22_6, c22, F22, v_PIn, ha, hb, go_sem, Int.reduceTMod, Int.reduceTDiv, Int.reduceDiv, Int.reduceMod, Int.reduceAdd, Int.reduceSub, Int.reduceMul, Int.reduceNeg, Int.reducePow, Int.reduceEq, ↓reduceIte, Nat.reduceEqDiff, Nat.reduceAdd, Nat.reduceMul, Nat.reduceLeDiff, Nat.reduceSub, Nat.reduceLT, Int.reduceToNat, Int.reduceLT, Int.reduceLE, reduceCtorEq]
      repeat' ((first | refine FK_split (fun h_ => ?_) (fun h_ => ?_) | refine GK_split (fun h_ => ?_) (fun h_ => ?_) | refine ite_both (fun h_ => ?_) (fun h_ => ?_)) <;> (try simp only [decide_eq_true_eq, decide_eq_false_iff_not, Bool.not_true, Bool.not_false, Bool.not_eq_true', Bool.not_eq_false', Bool.not_eq_eq_eq_not, Decidable.not_not] at h_) <;> (try simp only [r22_0, r22_1, r22_2, r22_3, r22_4, r22_5, r22_6, c22, F22, v_PIn, ha, hb, h_, go_sem, Int.reduceTMod, Int.reduceTDiv, Int.reduceDiv, Int.reduceMod, Int.reduceAdd, Int.reduceSub, Int.reduceMul, Int.reduceNeg, Int.reducePow, Int.reduceEq, ↓reduceIte, Nat.reduceEqDiff, Nat.reduceAdd, Nat.reduceMul, Nat.reduceLeDiff, Nat.reduceSub, Nat.reduceLT, Int.reduceToNat, Int.reduceLT, Int.reduceLE, reduceCtorEq]))
    · rw [if_pos (by simp)]
      obtain ⟨w1, w2⟩ := sub_wrap ha hb
      cases hl : longB (bx - ax) (b_y - ay)
      · rw [if_neg (by simp)]
        have sq := sq_bd hl
        rw [long_iff] at hl
        generalize hgx : bx - ax = x at *
        generalize hgy : b_y - ay = y at *
        have w3 : IntKind.i64.wrap (x * x) = x * x := wr_eq (by omega) (by omega)
        have w4 : IntKind.i64.wrap (y * y) = y * y := wr_eq (by omega) (by omega)
        have w5 : IntKind.i64.wrap (x * x + y * y) = x * x + y * y := wr_eq (by omega) (by omega)
        have vr := v_Sqrt (x * x + y * y) (by omega) (by omega)
        have m1 : (536870912 < mxI x y) = False := eq_false (by unfold mxI; split <;> omega)
        have m2 : (mnI x y < -536870912) = False := eq_false (by unfold mnI; split <;> omega)
        try simp only [r22_0, r22_1, r22_2, r22_3, r22_4, r22_5, r22_6, c22, F22, v_PIn, ha, hb, hgx, hgy, w1, w2, w3, w4, w5, vr, maxI_two, minI_two, m1, m2, go_sem, Int.reduceTMod, Int.reduceTDiv, Int.reduceDiv, Int.reduceMod, Int.reduceAdd, Int.reduceSub, Int.reduceMul, Int.reduceNeg, Int.reducePow, Int.reduceEq, ↓reduceIte, Nat.reduceEqDiff, Nat.reduceAdd, Nat.reduceMul, Nat.reduceLeDiff, Nat.reduceSub, Nat.reduceLT, Int.reduceToNat, Int.reduceLT, Int.reduceLE, reduceCtorEq]
        repeat' ((first | refine FK_split (fun h_ => ?_) (fun h_ => ?_) | refine GK_split (fun h_ => ?_) (fun h_ => ?_) | refine ite_both (fun h_ => ?_) (fun h_ => ?_)) <;> (try simp only [decide_eq_true_eq, decide_eq_false_iff_not, Bool.not_true, Bool.not_false, Bool.not_eq_true', Bool.not_eq_false', Bool.not_eq_eq_eq_not, Decidable.not_not] at h_) <;> (try simp only [r22_0, r22_1, r22_2, r22_3, r22_4, r22_5, r22_6, c22, F22, v_PIn, ha, hb, hgx, hgy, w1, w2, w3, w4, w5, vr, maxI_two, minI_two, m1, m2, h_, go_sem, Int.reduceTMod, Int.reduceTDiv, Int.reduceDiv, Int.reduceMod, Int.reduceAdd, Int.reduceSub, Int.reduceMul, Int.reduceNeg, Int.reducePow, Int.reduceEq, ↓reduceIte, Nat.reduceEqDiff, Nat.reduceAdd, Nat.reduceMul, Nat.reduceLeDiff, Nat.reduceSub, Nat.reduceLT, Int.reduceToNat, Int.reduceLT, Int.reduceLE, reduceCtorEq]))
      · rw [if_pos rfl]
        have hl' : ¬ ((-536870912 ≤ bx - ax ∧ bx - ax ≤ 536870912) ∧ -536870912 ≤ b_y - ay ∧ b_y - ay ≤ 536870912) := fun h => by rw [long_iff.2 h] at hl; cases hl
        generalize hgx : bx - ax = x at *
        generalize hgy : b_y - ay = y at *
        by_cases g : 536870912 < mxI x y
        · skip
          try simp only [r22_0, r22_1, r22_2, r22_3, r22_4, r22_5, r22_6, c22, F22, v_PIn, ha, hb, hgx, hgy, w1, w2, maxI_two, minI_two, g, go_sem, Int.reduceTMod, Int.reduceTDiv, Int.reduceDiv, Int.reduceMod, Int.reduceAdd, Int.reduceSub, Int.reduceMul, Int.reduceNeg, Int.reducePow, Int.reduceEq, ↓reduceIte, Nat.reduceEqDiff, Nat.reduceAdd, Nat.reduceMul, Nat.reduceLeDiff, Nat.reduceSub, Nat.reduceLT, Int.reduceToNat, Int.reduceLT, Int.reduceLE, reduceCtorEq]
          repeat' ((first | refine FK_split (fun h_ => ?_) (fun h_ => ?_) | refine GK_split (fun h_ => ?_) (fun h_ => ?_) | refine ite_both (fun h_ => ?_) (fun h_ => ?_)) <;> (try simp only [decide_eq_true_eq, decide_eq_false_iff_not, Bool.not_true, Bool.not_false, Bool.not_eq_true', Bool.not_eq_false', Bool.not_eq_eq_eq_not, Decidable.not_not] at h_) <;> (try simp only [r22_0, r22_1, r22_2, r22_3, r22_4, r22_5, r22_6, c22, F22, v_PIn, ha, hb, hgx, hgy, w1, w2, maxI_two, minI_two, g, h_, go_sem, Int.reduceTMod, Int.reduceTDiv, Int.reduceDiv, Int.reduceMod, Int.reduceAdd, Int.reduceSub, Int.reduceMul, Int.reduceNeg, Int.reducePow, Int.reduceEq, ↓reduceIte, Nat.reduceEqDiff, Nat.reduceAdd, Nat.reduceMul, Nat.reduceLeDiff, Nat.reduceSub, Nat.reduceLT, Int.reduceToNat, Int.reduceLT, Int.reduceLE, reduceCtorEq]))
        · have m2 : (mnI x y < -536870912) = True := eq_true (by unfold mxI at g; unfold mnI; split at g <;> split <;> omega)
          try simp only [r22_0, r22_1, r22_2, r22_3, r22_4, r22_5, r22_6, c22, F22, v_PIn, ha, hb, hgx, hgy, w1, w2, maxI_two, minI_two, g, m2, go_sem, Int.reduceTMod, Int.reduceTDiv, Int.reduceDiv, Int.reduceMod, Int.reduceAdd, Int.reduceSub, Int.reduceMul, Int.reduceNeg, Int.reducePow, Int.reduceEq, ↓reduceIte, Nat.reduceEqDiff, Nat.reduceAdd, Nat.reduceMul, Nat.reduceLeDiff, Nat.reduceSub, Nat.reduceLT, Int.reduceToNat, Int.reduceLT, Int.reduceLE, reduceCtorEq]
          repeat' ((first | refine FK_split (fun h_ => ?_) (fun h_ => ?_) | refine GK_split (fun h_ => ?_) (fun h_ => ?_) | refine ite_both (fun h_ => ?_) (fun h_ => ?_)) <;> (try simp only [decide_eq_true_eq, decide_eq_false_iff_not, Bool.not_true, Bool.not_false, Bool.not_eq_true', Bool.not_eq_false', Bool.not_eq_eq_eq_not, Decidable.not_not] at h_) <;> (try simp only [r22_0, r22_1, r22_2, r22_3, r22_4, r22_5, r22_6, c22, F22, v_PIn, ha, hb, hgx, hgy, w1, w2, maxI_two, minI_two, g, m2, h_, go_sem, Int.reduceTMod, Int.reduceTDiv, Int.reduceDiv, Int.reduceMod, Int.reduceAdd, Int.reduceSub, Int.reduceMul, Int.reduceNeg, Int.reducePow, Int.reduceEq, ↓reduceIte, Nat.reduceEqDiff, Nat.reduceAdd, Nat.reduceMul, Nat.reduceLeDiff, Nat.reduceSub, Nat.reduceLT, Int.reduceToNat, Int.reduceLT, Int.reduceLE, reduceCtorEq]))
theorem v_dpart (x d : Int) (hx : -1152921504606846976 ≤ x ∧ x ≤ 1152921504606846976) (hd : 0 < d) (hd2 : d ≤ 4294967296) (m : Mem) (n : Nat) : callF TA 54 [RI x, RI d] m n = some (RI (rnd x d)) := by
  refine callF_of (Fn_ofK (fn := F54) rfl (by simp [F54]) ?_)
  have w1 : IntKind.i64.wrap (2 * x) = 2 * x := wr_eq (by omega) (by omega)
  have w2 : IntKind.i64.wrap (2 * x + d) = 2 * x + d := wr_eq (by omega) (by omega)
  have w3 : IntKind.i64.wrap (2 * d) = 2 * d := wr_eq (by omega) (by omega)
  obtain ⟨ex, md⟩ := v_MulDiv1 (2 * x + d) (2 * d) (by omega) (by omega) (by omega) (fun _ => none) 0
  try simp only [r54_0, r54_1, r54_2, c54, F54, w1, w2, w3, md, rnd, go_sem, Int.reduceTMod, Int.reduceTDiv, Int.reduceDiv, Int.reduceMod, Int.reduceAdd, Int.reduceSub, Int.reduceMul, Int.reduceNeg, Int.reducePow, Int.reduceEq, ↓reduceIte, Nat.reduceEqDiff, Nat.reduceAdd, Nat.reduceMul, Nat.reduceLeDiff, Nat.reduceSub, Nat.reduceLT, Int.reduceToNat, Int.reduceLT, Int.reduceLE, reduceCtorEq]
  repeat' ((first | refine FK_split (fun h_ => ?_) (fun h_ => ?_) | refine GK_split (fun h_ => ?_) (fun h_ => ?_) | refine ite_both (fun h_ => ?_) (fun h_ => ?_)) <;> (try simp only [decide_eq_true_eq, decide_eq_false_iff_not, Bool.not_true, Bool.not_false, Bool.not_eq_true', Bool.not_eq_false', Bool.not_eq_eq_eq_not, Decidable.not_not] at h_) <;> (try simp only [r54_0, r54_1, r54_2, c54, F54, w1, w2, w3, md, rnd, h_, go_sem, Int.reduceTMod, Int.reduceTDiv, Int.reduceDiv, Int.reduceMod, Int.reduceAdd, Int.reduceSub, Int.reduceMul, Int.reduceNeg, Int.reducePow, Int.reduceEq, ↓reduceIte, Nat.reduceEqDiff, Nat.reduceAdd, Nat.reduceMul, Nat.reduceLeDiff, Nat.reduceSub, Nat.reduceLT, Int.reduceToNat, Int.reduceLT, Int.reduceLE, reduceCtorEq]))
/-- At t of a line of length n: how far. -/
theorem at_bd {t n x : Int} (ht : 0 ≤ t) (htn : t ≤ n) (hn : 0 < n) (hn2 : n ≤ 1073741824) (hx : -536870912 ≤ x ∧ x ≤ 536870912) :
    (-1152921504606846976 ≤ t * x ∧ t * x ≤ 1152921504606846976) ∧ (0 ≤ x → 0 ≤ rnd (t * x) n ∧ rnd (t * x) n ≤ x) ∧ (x ≤ 0 → x ≤ rnd (t * x) n ∧ rnd (t * x) n ≤ 0) := by
  rcases Int.le_total 0 x with h | h
  · have k1 : t * x ≤ n * x := Int.mul_le_mul_of_nonneg_right htn h
    have k2 : 0 ≤ t * x := Int.mul_nonneg ht h
    have k3 : n * x ≤ 1073741824 * 536870912 := Int.mul_le_mul hn2 hx.2 h (by omega)
    refine ⟨by omega, fun _ => ⟨rnd_ge hn (by omega), rnd_le hn (by rw [Int.mul_comm x n]; exact k1)⟩, fun h2 => ?_⟩
    have : x = 0 := by omega
    subst this
    rw [Int.mul_zero]
    exact ⟨rnd_ge hn (by omega), rnd_le hn (by omega)⟩
  · have k1 : n * x ≤ t * x := Int.mul_le_mul_of_nonpos_right htn h
    have k2 : t * x ≤ 0 := Int.mul_nonpos_of_nonneg_of_nonpos ht h
    have k3 : -(1073741824 * 536870912) ≤ n * x := by
      have := Int.mul_le_mul hn2 (show -x ≤ 536870912 by omega) (by omega) (by omega)
      rw [Int.mul_neg] at this
      omega
    refine ⟨by omega, fun h2 => ?_, fun _ => ⟨rnd_ge hn (by rw [Int.mul_comm x n]; exact k1), rnd_le hn (by omega)⟩⟩
    have : x = 0 := by omega
    subst this
    rw [Int.mul_zero]
    exact ⟨rnd_ge hn (by omega), rnd_le hn (by omega)⟩
def placeP (ax ay bx b_y t n : Int) : Pt := ⟨ax + rnd (t * (bx - ax)) n, ay + rnd (t * (b_y - ay)) n⟩
section
variable {ax ay bx b_y t n : Int} (ha : inP ⟨ax, ay⟩ = true) (hb : inP ⟨bx, b_y⟩ = true) (hl : longB (bx - ax) (b_y - ay) = false) (ht : 0 ≤ t) (htn : t ≤ n) (hn : 0 < n) (hn2 : n ≤ 1073741824)
include ha hb hl ht htn hn hn2
theorem place_in : inP (placeP ax ay bx b_y t n) = true := by
  rw [long_iff] at hl
  obtain ⟨_, x1, x2⟩ := at_bd ht htn hn hn2 hl.1
  obtain ⟨_, y1, y2⟩ := at_bd ht htn hn hn2 hl.2
  rw [inP_iff] at ha hb
  unfold placeP
  rw [inP_iff]
  omega
theorem v_dplace (m : Mem) (k : Nat) : callF TA 43 [.agg [I ax, I ay], .agg [I bx, I b_y], RI t, RI n] m k = some (placeP ax ay bx b_y t n).r := by
  have hin := place_in ha hb hl ht htn hn hn2
  refine callF_of (Fn_ofK (fn := F43) rfl (by simp [F43]) ?_)
  obtain ⟨w1, w2⟩ := sub_wrap ha hb
  rw [long_iff] at hl
  obtain ⟨b1, _, _⟩ := at_bd ht htn hn hn2 hl.1
  obtain ⟨b2, _, _⟩ := at_bd ht htn hn hn2 hl.2
  unfold placeP at hin ⊢
  rw [inP_iff] at hin
  generalize hgx : bx - ax = x at *
  generalize hgy : b_y - ay = y at *
  have p1 := v_dpart (t * x) n b1 hn (by omega)
  have p2 := v_dpart (t * y) n b2 hn (by omega)
  have w3 : IntKind.i64.wrap (t * x) = t * x := wr_eq (by omega) (by omega)
  have w4 : IntKind.i64.wrap (t * y) = t * y := wr_eq (by omega) (by omega)
  have w5 : IntKind.i64.wrap (ax + rnd (t * x) n) = ax + rnd (t * x) n := wr_eq (by omega) (by omega)
  have w6 : IntKind.i64.wrap (ay + rnd (t * y) n) = ay + rnd (t * y) n := wr_eq (by omega) (by omega)
  try simp only [r43_0, r43_1, c43, F43, hgx, hgy, w1, w2, w3, w4, w5, w6, p1, p2, go_sem, Int.reduceTMod, Int.reduceTDiv, Int.reduceDiv, Int.reduceMod, Int.reduceAdd, Int.reduceSub, Int.reduceMul, Int.reduceNeg, Int.reducePow, Int.reduceEq, ↓reduceIte, Nat.reduceEqDiff, Nat.reduceAdd, Nat.reduceMul, Nat.reduceLeDiff, Nat.reduceSub, Nat.reduceLT, Int.reduceToNat, Int.reduceLT, Int.reduceLE, reduceCtorEq]
  repeat' ((first | refine FK_split (fun h_ => ?_) (fun h_ => ?_) | refine GK_split (fun h_ => ?_) (fun h_ => ?_) | refine ite_both (fun h_ => ?_) (fun h_ => ?_)) <;> (try simp only [decide_eq_true_eq, decide_eq_false_iff_not, Bool.not_true, Bool.not_false, Bool.not_eq_true', Bool.not_eq_false', Bool.not_eq_eq_eq_not, Decidable.not_not] at h_) <;> (try simp only [r43_0, r43_1, c43, F43, hgx, hgy, w1, w2, w3, w4, w5, w6, p1, p2, h_, go_sem, Int.reduceTMod, Int.reduceTDiv, Int.reduceDiv, Int.reduceMod, Int.reduceAdd, Int.reduceSub, Int.reduceMul, Int.reduceNeg, Int.reducePow, Int.reduceEq, ↓reduceIte, Nat.reduceEqDiff, Nat.reduceAdd, Nat.reduceMul, Nat.reduceLeDiff, Nat.reduceSub, Nat.reduceLT, Int.reduceToNat, Int.reduceLT, Int.reduceLE, reduceCtorEq]))
theorem v_rplace (m : Mem) (k : Nat) : callF TA 28 [.agg [I ax, I ay], .agg [I bx, I b_y], RI t, RI n] m k = some (placeP ax ay bx b_y t n).r := by
  have hin := place_in ha hb hl ht htn hn hn2
  refine callF_of (Fn_ofK (fn := F28) rfl (by simp [F28]) ?_)
  obtain ⟨w1, w2⟩ := sub_wrap ha hb
  rw [long_iff] at hl
  obtain ⟨b1, _, _⟩ := at_bd ht htn hn hn2 hl.1
  obtain ⟨b2, _, _⟩ := at_bd ht htn hn hn2 hl.2
  unfold placeP at hin ⊢
  rw [inP_iff] at hin
  generalize hgx : bx - ax = x at *
  generalize hgy : b_y - ay = y at *
  have p1 := v_Round (t * x) n (by omega) hn (by omega)
  have p2 := v_Round (t * y) n (by omega) hn (by omega)
  have w3 : IntKind.i64.wrap (t * x) = t * x := wr_eq (by omega) (by omega)
  have w4 : IntKind.i64.wrap (t * y) = t * y := wr_eq (by omega) (by omega)
  have w5 : IntKind.i64.wrap (ax + rnd (t * x) n) = ax + rnd (t * x) n := wr_eq (by omega) (by omega)
  have w6 : IntKind.i64.wrap (ay + rnd (t * y) n) = ay + rnd (t * y) n := wr_eq (by omega) (by omega)
  try simp only [r28_0, r28_1, c28, F28, hgx, hgy, w1, w2, w3, w4, w5, w6, p1, p2, go_sem, Int.reduceTMod, Int.reduceTDiv, Int.reduceDiv, Int.reduceMod, Int.reduceAdd, Int.reduceSub, Int.reduceMul, Int.reduceNeg, Int.reducePow, Int.reduceEq, ↓reduceIte, Nat.reduceEqDiff, Nat.reduceAdd, Nat.reduceMul, Nat.reduceLeDiff, Nat.reduceSub, Nat.reduceLT, Int.reduceToNat, Int.reduceLT, Int.reduceLE, reduceCtorEq]
  repeat' ((first | refine FK_split (fun h_ => ?_) (fun h_ => ?_) | refine GK_split (fun h_ => ?_) (fun h_ => ?_) | refine ite_both (fun h_ => ?_) (fun h_ => ?_)) <;> (try simp only [decide_eq_true_eq, decide_eq_false_iff_not, Bool.not_true, Bool.not_false, Bool.not_eq_true', Bool.not_eq_false', Bool.not_eq_eq_eq_not, Decidable.not_not] at h_) <;> (try simp only [r28_0, r28_1, c28, F28, hgx, hgy, w1, w2, w3, w4, w5, w6, p1, p2, h_, go_sem, Int.reduceTMod, Int.reduceTDiv, Int.reduceDiv, Int.reduceMod, Int.reduceAdd, Int.reduceSub, Int.reduceMul, Int.reduceNeg, Int.reducePow, Int.reduceEq, ↓reduceIte, Nat.reduceEqDiff, Nat.reduceAdd, Nat.reduceMul, Nat.reduceLeDiff, Nat.reduceSub, Nat.reduceLT, Int.reduceToNat, Int.reduceLT, Int.reduceLE, reduceCtorEq]))
end

/- SyQ: arguments of a law, opened for the evaluator. A plain library of this session's own; conditions: none beyond those that each theorem names. -/
open Go.RowKit Go.ChangeShapes Go.WideShapes Go.Deep

inductive CK where
  | int (k : IntKind)
  | bool

/-- Cells of these kinds. -/
def CksOk : List CK → List Value → Prop
  | [], vs => vs = []
  | .int k :: ks, vs => ∃ n r, vs = .int k n :: r ∧ (k.min ≤ n ∧ n ≤ k.max) ∧ CksOk ks r
  | .bool :: ks, vs => ∃ b r, vs = .bool b :: r ∧ CksOk ks r

def goF (P : Program) (rec : TypeId → Option (List CK)) : List Field → Nat → Option (List CK)
  | [], _ => some []
  | f :: fs, off =>
    match rec f.type with
    | none => none
    | some ks => if f.offset = off ∧ ks.length = P.cellsOf f.type then (goF P rec fs (off + ks.length)).map (ks ++ ·) else none

/-- The kinds of a type's cells, where all are numbers or Bools. -/
def kindsK (P : Program) : Nat → TypeId → Option (List CK)
  | 0, _ => none
  | n + 1, t =>
    match P.underlying t with
    | some (.int k) => some [.int k]
    | some .bool => some [.bool]
    | some (.struct fs) => (goF P (kindsK P n) fs.toList 0).bind fun ks => if ks.length = P.cellsOf t then some ks else none
    | some (.array m e) => (kindsK P n e).bind fun ks => if ks.length = P.cellsOf e ∧ m * ks.length = P.cellsOf t then some (List.replicate m ks).flatten else none
    | _ => none

theorem CksOk.app : ∀ {ks ls : List CK} {a b : List Value}, CksOk ks a → CksOk ls b → CksOk (ks ++ ls) (a ++ b)
  | [], ls, a, b, h, h' => by simp only [CksOk] at h; subst h; exact h'
  | .int k :: ks, ls, a, b, h, h' => by
    obtain ⟨n, r, rfl, h1, h2⟩ := h
    exact ⟨n, r ++ b, rfl, h1, CksOk.app h2 h'⟩
  | .bool :: ks, ls, a, b, h, h' => by
    obtain ⟨n, r, rfl, h2⟩ := h
    exact ⟨n, r ++ b, rfl, CksOk.app h2 h'⟩

theorem CksOk.len : ∀ {ks : List CK} {a : List Value}, CksOk ks a → a.length = ks.length
  | [], a, h => by simp only [CksOk] at h; subst h; rfl
  | .int k :: ks, a, h => by
    obtain ⟨n, r, rfl, h1, h2⟩ := h
    simp [CksOk.len h2]
  | .bool :: ks, a, h => by
    obtain ⟨n, r, rfl, h2⟩ := h
    simp [CksOk.len h2]

theorem CksOk.rel {ρ : Loc} {n : Nat} {w : World} : ∀ {ks : List CK} {a : List Value}, CksOk ks a → CRels ρ n w (a.map .sc) a
  | [], a, h => by simp only [CksOk] at h; subst h; simp [CRels]
  | .int k :: ks, a, h => by
    obtain ⟨m, r, rfl, h1, h2⟩ := h
    simp only [List.map_cons, CRels]
    exact ⟨_, _, rfl, ⟨rfl, rfl⟩, CksOk.rel h2⟩
  | .bool :: ks, a, h => by
    obtain ⟨m, r, rfl, h2⟩ := h
    simp only [List.map_cons, CRels]
    exact ⟨_, _, rfl, ⟨rfl, rfl⟩, CksOk.rel h2⟩

/-- Whatever reads as_ data of the type has these cells. -/
def OpK (P : Program) (T : TypeId) (ks : List CK) : Prop :=
  ∀ (H : Type) (enc : TypeId × Value → H) (w : World) (base : Nat) (spare : Nat → Bool) (held : Bool) (fuel : Nat) (cs : List Value) (x : DataW H × List MemPlace),
    DataW.trod enc P w base spare held fuel T cs = some x → CksOk ks cs

theorem has_of_wf {k : IntKind} {n : Int} (h : (Lit.int k n).wf = true) : k.min ≤ n ∧ n ≤ k.max := by
  simpa only [Lit.wf, Bool.and_eq_true, decide_eq_true_eq] using h

theorem goF_ok {P : Program} {rec : TypeId → Option (List CK)} (hrec : ∀ t ks, rec t = some ks → OpK P t ks) {H : Type} {enc : TypeId × Value → H} {w : World} {base : Nat} {spare : Nat → Bool} {held : Bool} {fuel : Nat} :
    ∀ {fs : List Field} {off : Nat} {ks : List CK} {cs : List Value}, goF P rec fs off = some ks → cs.length = off + ks.length →
      (∀ f ∈ fs, ∃ x, DataW.trod enc P w base spare held fuel f.type ((cs.drop f.offset).take (P.cellsOf f.type)) = some x) → CksOk ks (cs.drop off)
  | [], off, ks, cs, h, hl, hf => by
    simp only [goF, Option.some.injEq] at h
    subst h
    show cs.drop off = []
    exact List.drop_eq_nil_of_le (by simp at hl; omega)
  | f :: fs, off, ks, cs, h, hl, hf => by
    simp only [goF] at h
    split at h
    · cases h
    rename_i ks1 h1
    split at h
    case isFalse => cases h
    rename_i hc
    obtain ⟨ks2, h2, rfl⟩ := Option.map_eq_some_iff.1 h
    obtain ⟨x, hx⟩ := hf f (by simp)
    have h3 := hrec _ _ h1 H enc w base spare held fuel _ _ hx
    rw [hc.1, ← hc.2] at h3
    have h4 := goF_ok hrec (fs := fs) (off := off + ks1.length) (cs := cs) h2 (by simp at hl; omega) (fun g hg => hf g (by simp [hg]))
    have := h3.app h4
    rwa [← List.drop_drop, List.take_append_drop] at this

theorem rep_ok {ks : List CK} : ∀ (m : Nat) (cs : List Value), cs.length = m * ks.length → (∀ i, i < m → CksOk ks ((cs.drop (i * ks.length)).take ks.length)) → CksOk (List.replicate m ks).flatten cs
  | 0, cs, hl, h => by
    simp only [Nat.zero_mul, List.length_eq_zero_iff] at hl
    subst hl
    exact rfl
  | m + 1, cs, hl, h => by
    rw [List.replicate_succ, List.flatten_cons]
    have h0 := h 0 (by omega)
    rw [Nat.zero_mul, List.drop_zero] at h0
    have h1 := rep_ok (ks := ks) m (cs.drop ks.length) (by rw [List.length_drop, hl, Nat.succ_mul]; omega) (fun i hi => by
      have := h (i + 1) (by omega)
      rwa [Nat.succ_mul, Nat.add_comm, ← List.drop_drop] at this)
    have := h0.app h1
    rwa [List.take_append_drop] at this

theorem kindsK_ok {P : Program} : ∀ {k : Nat} {T : TypeId} {ks : List CK}, kindsK P k T = some ks → OpK P T ks
  | 0, T, ks, h => by simp [kindsK] at h
  | k + 1, T, ks, h => by
    intro H enc w base spare held fuel cs x hx
    simp only [kindsK] at h
    split at h
    · rename_i kd ht
      cases h
      obtain ⟨n, rfl, _, hw⟩ := DataW.trod_int ht hx
      exact ⟨n, [], rfl, has_of_wf hw, rfl⟩
    · rename_i ht
      cases h
      obtain ⟨b, rfl, _⟩ := DataW.trod_bool ht hx
      exact ⟨b, [], rfl, rfl⟩
    · rename_i fs ht
      obtain ⟨ks', h1, h2⟩ := Option.bind_eq_some_iff.1 h
      split at h2
      case isFalse => cases h2
      cases h2
      rename_i hlen
      obtain ⟨xs, n, _, _, hl, hxs, hf⟩ := DataW.trod_struct ht hx
      have := goF_ok (fun t ks h => kindsK_ok h) (H := H) (enc := enc) (w := w) (base := base) (spare := spare) (held := held) (fuel := n) (cs := cs) h1 (by rw [hl, hlen]; omega) (fun f hfm => by
        obtain ⟨i, hi, rfl⟩ := List.mem_iff_getElem.1 hfm
        have hi' : i < fs.size := by simpa using hi
        have := hf i fs[i] (by simp [hi'])
        rw [List.getElem?_eq_getElem (by omega)] at this
        exact ⟨_, by simpa using this⟩)
      rwa [List.drop_zero] at this
    · rename_i m e ht
      obtain ⟨ks', h1, h2⟩ := Option.bind_eq_some_iff.1 h
      split at h2
      case isFalse => cases h2
      cases h2
      rename_i hc
      obtain ⟨xs, n, _, _, hl, hxs, hf⟩ := DataW.trod_array ht hx
      refine rep_ok m cs (by rw [hl, hc.2]) (fun i hi => ?_)
      have := hf i hi
      rw [List.getElem?_eq_getElem (by omega), ← hc.1] at this
      exact kindsK_ok h1 H enc w base spare held n _ _ this
    · cases h

/-- A flat argument that is a struct or an array. -/
theorem arg_agg {P : Program} {T : TypeId} {ks : List CK} {k : Nat} (hk : kindsK P k T = some ks) {H : Type} {enc : TypeId × Value → H} {w : World} {base : Nat} {spare : Nat → Bool} {held : Bool} {cs : Array Value} {d : DataW H} {ps : List MemPlace}
    (h : DataW.Trod enc P w base spare held T (.agg cs) d ps) : ∃ l : List Value, cs = l.toArray ∧ CksOk ks l := by
  obtain ⟨fuel, hf⟩ := h
  exact ⟨cs.toList, by simp, kindsK_ok hk H enc w base spare held fuel _ _ hf⟩

theorem arg_int {P : Program} {T : TypeId} {k : IntKind} {w : World} {base : Nat} {v : Value} (ht : P.underlying T = some (.int k)) (h : Value.okWide P w .any base T v) : ∃ n, v = .int k n ∧ k.min ≤ n ∧ n ≤ k.max := by
  simp only [Value.okWide, ht, Cell.okWide] at h
  cases v <;> simp_all [Cell.ok, IntKind.has]

theorem arg_arr {P : Program} {w : World} {r : Reach} {base : Nat} {t e : TypeId} {n : Nat} {v : Value} (ht : P.underlying t = some (.array n e)) (h : Value.okWide P w r base t v) : ∃ cs, v = .agg cs ∧ cs.size = P.cellsOf t := by
  simp only [Value.okWide, ht] at h
  obtain ⟨cs, h1, h2, _⟩ := h
  exact ⟨cs, h1, h2⟩

/-- Rows of cells of these kinds. -/
def RowsOk (ks : List CK) (n : Nat) (vs : List Value) : Prop := CksOk (List.replicate n ks).flatten vs

/-- A slice of flat elements: nil, or a row of cells that stands in the world. -/
theorem arg_slice {P : Program} {T e : TypeId} {ks : List CK} {k : Nat} (ht : P.underlying T = some (.slice e)) (hk : kindsK P k e = some ks) (hc : P.cellsOf e = ks.length) (h0 : ks.length ≠ 0) {H : Type} {enc : TypeId × Value → H} {w : World} {base base' : Nat} {held : Bool} {v : Value} {d : DataW H} {ps : List MemPlace}
    (hv : Value.okWide P w .any base' T v) (h : DataW.Trod enc P w base (fun _ => true) held T v d ps) :
    v = .slice none 0 0 ∨ ∃ b o len cap vs, v = .slice (some ⟨b, o, none⟩) len cap ∧ b < w.heap.size ∧ len ≤ cap ∧ cap ≤ maxLen ∧ RowsOk ks cap vs ∧ ∀ (i : Nat) (x : Value), vs[i]? = some x → w.cell? ⟨b, o + i, none⟩ = some x := by
  obtain ⟨a, len, cap, rfl⟩ := okWide_slice ht hv
  obtain ⟨fuel, hf⟩ := h
  rcases open_slice ht hf with ⟨hcs, _⟩ | ⟨a', len', cap', m, n, D, Pl, hcs, _, hl, hm, hmm, _, hx⟩
  · left
    exact (List.cons.inj hcs).1
  · right
    obtain ⟨rfl, rfl, rfl⟩ := Value.slice.inj (List.cons.inj hcs).1
    rw [if_pos rfl] at hmm
    subst hmm
    have hspot : a'.spot = none ∧ a'.block < w.heap.size := by
      simp only [Value.okWide, ht, Cell.okWide, Cell.ok] at hv
      obtain ⟨_, _, _, h1, row, cells, h2, _⟩ := hv
      refine ⟨h1, ?_⟩
      unfold World.shape? at h2
      split at h2
      · rename_i hb
        exact (Array.getElem?_eq_some_iff.1 hb).1
      · cases h2
    obtain ⟨b, o, sp⟩ := a'
    obtain ⟨rfl, hb⟩ := hspot
    refine ⟨b, o, len, m, (List.range (m * ks.length)).map (fun i => (w.cell? ⟨b, o + i, none⟩).getD (.bool false)), rfl, hb, hl, hm, ?_, ?_⟩
    · refine rep_ok m _ (by simp) (fun i hi => ?_)
      obtain ⟨cs', h1, h2⟩ := hx i hi
      have h3 := kindsK_ok hk H enc w base _ held n _ _ h2
      obtain ⟨_, h4, h5⟩ := World.cells?_some h1
      have hle : i * ks.length + ks.length ≤ m * ks.length := by
        have := Nat.mul_le_mul_right ks.length (show i + 1 ≤ m from hi)
        rwa [Nat.succ_mul] at this
      have : ((List.map (fun i => (w.cell? ⟨b, o + i, none⟩).getD (.bool false)) (List.range (m * ks.length))).drop (i * ks.length)).take ks.length = cs' := by
        refine List.ext_getElem? (fun j => ?_)
        rw [hc] at h4 h5
        by_cases hj : j < ks.length
        · rw [List.getElem?_take_of_lt hj, List.getElem?_drop, List.getElem?_map, List.getElem?_range (by omega)]
          have h6 := h5 j hj
          rw [Deep.add_add] at h6
          have h7 : (⟨b, o, none⟩ : Addr).add (i * ks.length + j) = ⟨b, o + (i * ks.length + j), none⟩ := by
            unfold Addr.add
            split
            · rename_i hz; rw [hz]; rfl
            · rfl
          rw [h7] at h6
          rw [Option.map_some, h6, List.getElem?_eq_getElem (by omega)]
          rfl
        · rw [List.getElem?_eq_none (by simp; omega), List.getElem?_eq_none (by omega)]
      rw [this]
      exact h3
    · intro i x hi
      rw [List.getElem?_map] at hi
      obtain ⟨j, hj, rfl⟩ := Option.map_eq_some_iff.1 hi
      obtain ⟨hj1, rfl⟩ := List.getElem?_eq_some_iff.1 hj
      rw [List.getElem_range] at hj ⊢
      have hj2 : i < m * ks.length := by simpa using hj1
      have hpos : 0 < ks.length := by omega
      have hdm := Nat.div_add_mod i ks.length
      have hmod := Nat.mod_lt i hpos
      have hdiv : i / ks.length < m := Nat.div_lt_of_lt_mul (by rwa [Nat.mul_comm])
      obtain ⟨cs', h1, _⟩ := hx _ hdiv
      obtain ⟨_, h4, h5⟩ := World.cells?_some h1
      rw [hc] at h4 h5
      have h6 := h5 _ hmod
      rw [Deep.add_add] at h6
      have h7 : (⟨b, o, none⟩ : Addr).add (i / ks.length * ks.length + i % ks.length) = ⟨b, o + i, none⟩ := by
        unfold Addr.add
        rw [Nat.mul_comm, hdm]
        split
        · rename_i hz; rw [hz]; rfl
        · rfl
      rw [h7, List.getElem?_eq_getElem (by omega)] at h6
      rw [h6]
      rfl

/-! ### memory -/
def Held (m : Mem) : Prop := ∀ id b, m id = some b → b.own = false
theorem held_none : Held (fun _ => none) := fun _ _ h => by cases h
theorem held_upd {m : Mem} (h : Held m) (k : Nat) (cs : List Cell) : Held (upd m k (some ⟨cs, false⟩)) := by
  intro id b hb
  unfold upd at hb
  split at hb
  · cases hb; rfl
  · exact h id b hb

def atL (ρ : Loc) (n b o : Nat) : Loc := fun id => if id = n then (b, o) else ρ id

theorem atL_le {ρ : Loc} {n : Nat} {w : World} {b o : Nat} : Le ρ n w (atL ρ n b o) (n + 1) w :=
  ⟨by omega, fun id hi => by unfold atL; rw [if_neg (by omega)], fun _ h => h⟩

theorem rows_rel {ρ : Loc} {n : Nat} {w : World} {ks : List CK} {cap : Nat} {vs : List Value} (h : RowsOk ks cap vs) : ∀ (i : Nat) (x : Value), vs[i]? = some x → CRel ρ n w (.sc x) x := by
  intro i x hx
  have h1 : ∀ {ks : List CK} {vs : List Value}, CksOk ks vs → ∀ v ∈ vs, v.oneCell' = true := by
    intro ks vs h
    have hr : CRels ρ n w (vs.map .sc) vs := h.rel
    exact CRels.all_one _ _ hr
  exact ⟨rfl, h1 h x (List.mem_of_getElem? hx)⟩

/-- One row of cells more, held. -/
theorem addRow {ρ : Loc} {n : Nat} {w : World} {m : Mem} (hm : MRel ρ n w m) (hh : Held m) {b o cap : Nat} {ks : List CK} {vs : List Value} (hb : b < w.heap.size) (hr : RowsOk ks cap vs) (hc : ∀ (i : Nat) (x : Value), vs[i]? = some x → w.cell? ⟨b, o + i, none⟩ = some x) :
    MRel (atL ρ n b o) (n + 1) w (upd m n (some ⟨vs.map .sc, false⟩)) := by
  refine ⟨fun id bl h => ?_, fun id bl h => ?_, fun id bl h i c hi => ?_, fun id bl h ho => ?_, fun id bl h ho => ?_⟩
  · unfold upd at h
    split at h
    · omega
    · have := hm.lt id bl h; omega
  · unfold upd at h
    unfold atL
    split at h
    · rename_i he; rw [if_pos he]; exact hb
    · rename_i he; rw [if_neg he]; exact hm.blk id bl h
  · unfold upd at h
    split at h
    · rename_i he
      cases h
      subst he
      rw [List.getElem?_map] at hi
      obtain ⟨x, hx, rfl⟩ := Option.map_eq_some_iff.1 hi
      refine ⟨x, ?_, rows_rel hr i x hx⟩
      unfold atL
      rw [if_pos rfl]
      exact hc i x hx
    · rename_i he
      obtain ⟨v, h1, h2⟩ := hm.cells id bl h i c hi
      refine ⟨v, ?_, CRel.mono atL_le _ _ h2⟩
      unfold atL
      rw [if_neg he]
      exact h1
  · rw [held_upd hh n _ id bl h] at ho; cases ho
  · rw [held_upd hh n _ id bl h] at ho; cases ho

/-- The slice over such a row. -/
theorem addSl {ρ : Loc} {n : Nat} {w : World} {b o len cap sz : Nat} {vs : List Value} (hl : len ≤ cap) (hv : vs.length = cap * sz) (hc : ∀ (i : Nat) (x : Value), vs[i]? = some x → w.cell? ⟨b, o + i, none⟩ = some x) :
    RRel (atL ρ n b o) (n + 1) w (.one (.sl n 0 len none sz)) (.slice (some ⟨b, o, none⟩) len cap) := by
  have h0 : (atL ρ n b o) n = (b, o) := if_pos rfl
  refine ⟨by omega, o, cap, by rw [h0], fun _ => by rw [h0]; rfl, hl, (by intro c h; cases h), fun j hj => ?_⟩
  rw [h0]
  rw [hc j _ (List.getElem?_eq_getElem (by omega))]
  rfl

/- The law DashPlaces walked. Conditions: those that each theorem names. -/
open Go Go.Proofs
set_option linter.unusedSimpArgs false
set_option linter.unusedVariables false

theorem v_awake : callF TA 9 [] (fun _ => none) 0 = some (RB true) := callF_closed (k := 60) (by kernel_rfl)
/-- Why no place: 30 or 10; none: there is one. -/
noncomputable def plErr (ax ay bx b_y t : Int) : Int :=
  if (inP ⟨ax, ay⟩ && inP ⟨bx, b_y⟩) = true then (if longB (bx - ax) (b_y - ay) = true then 10 else if isq ((bx - ax) * (bx - ax) + (b_y - ay) * (b_y - ay)) = 0 ∨ t < 0 ∨ isq ((bx - ax) * (bx - ax) + (b_y - ay) * (b_y - ay)) < t then 30 else 0) else 30
theorem v_Place (ax ay bx b_y t : Int) (m : Mem) (k : Nat) : callF TA 23 [.agg [I ax, I ay], .agg [I bx, I b_y], RI t] m k =
    some (.tup [if plErr ax ay bx b_y t = 0 then (placeP ax ay bx b_y t (isq ((bx - ax) * (bx - ax) + (b_y - ay) * (b_y - ay)))).r else .agg [I 0, I 0], RI (plErr ax ay bx b_y t)]) := by
  refine callF_of (Fn_ofK (fn := F23) rfl (by simp [F23]) ?_)
  have vl := v_Length ax ay bx b_y
  cases ha : inP ⟨ax, ay⟩ && inP ⟨bx, b_y⟩
  · have e : plErr ax ay bx b_y t = 30 := by unfold plErr; rw [if_neg (by rw [ha]; simp)]
    simp only [ha, Bool.false_eq_true, if_false] at vl
    rw [e, if_neg (by decide)]
    try simp only [r23_0, r23_1, r23_2, r23_3, r23_4, r23_5, r23_6, c23, F23, vl, go_sem, Int.reduceTMod, Int.reduceTDiv, Int.reduceDiv, Int.reduceMod, Int.reduceAdd, Int.reduceSub, Int.reduceMul, Int.reduceNeg, Int.reducePow, Int.reduceEq, ↓reduceIte, Nat.reduceEqDiff, Nat.reduceAdd, Nat.reduceMul, Nat.reduceLeDiff, Nat.reduceSub, Nat.reduceLT, Int.reduceToNat, Int.reduceLT, Int.reduceLE, reduceCtorEq]
    repeat' ((first | refine FK_split (fun h_ => ?_) (fun h_ => ?_) | refine GK_split (fun h_ => ?_) (fun h_ => ?_) | refine ite_both (fun h_ => ?_) (fun h_ => ?_)) <;> (try simp only [decide_eq_true_eq, decide_eq_false_iff_not, Bool.not_true, Bool.not_false, Bool.not_eq_true', Bool.not_eq_false', Bool.not_eq_eq_eq_not, Decidable.not_not] at h_) <;> (try simp only [r23_0, r23_1, r23_2, r23_3, r23_4, r23_5, r23_6, c23, F23, vl, h_, go_sem, Int.reduceTMod, Int.reduceTDiv, Int.reduceDiv, Int.reduceMod, Int.reduceAdd, Int.reduceSub, Int.reduceMul, Int.reduceNeg, Int.reducePow, Int.reduceEq, ↓reduceIte, Nat.reduceEqDiff, Nat.reduceAdd, Nat.reduceMul, Nat.reduceLeDiff, Nat.reduceSub, Nat.reduceLT, Int.reduceToNat, Int.reduceLT, Int.reduceLE, reduceCtorEq]))
  · simp only [ha, if_true] at vl
    cases hl : longB (bx - ax) (b_y - ay)
    · simp only [hl, Bool.false_eq_true, if_false] at vl
      have sq := sq_bd hl
      have i1 := isq_spec (n := (bx - ax) * (bx - ax) + (b_y - ay) * (b_y - ay)) (by omega)
      have i2 := isq_le (n := (bx - ax) * (bx - ax) + (b_y - ay) * (b_y - ay)) (b := 1073741824) (by omega) (by decide) (by omega)
      obtain ⟨n, hn⟩ : ∃ n, n = isq ((bx - ax) * (bx - ax) + (b_y - ay) * (b_y - ay)) := ⟨_, rfl⟩
      rw [← hn] at vl i1 i2 ⊢
      by_cases c : n = 0 ∨ t < 0 ∨ n < t
      · have e : plErr ax ay bx b_y t = 30 := by unfold plErr; rw [if_pos ha, if_neg (by rw [hl]; simp), ← hn, if_pos c]
        rw [e, if_neg (by decide)]
        by_cases c1 : n = 0
        · skip
          try simp only [r23_0, r23_1, r23_2, r23_3, r23_4, r23_5, r23_6, c23, F23, vl, c1, go_sem, Int.reduceTMod, Int.reduceTDiv, Int.reduceDiv, Int.reduceMod, Int.reduceAdd, Int.reduceSub, Int.reduceMul, Int.reduceNeg, Int.reducePow, Int.reduceEq, ↓reduceIte, Nat.reduceEqDiff, Nat.reduceAdd, Nat.reduceMul, Nat.reduceLeDiff, Nat.reduceSub, Nat.reduceLT, Int.reduceToNat, Int.reduceLT, Int.reduceLE, reduceCtorEq]
          repeat' ((first | refine FK_split (fun h_ => ?_) (fun h_ => ?_) | refine GK_split (fun h_ => ?_) (fun h_ => ?_) | refine ite_both (fun h_ => ?_) (fun h_ => ?_)) <;> (try simp only [decide_eq_true_eq, decide_eq_false_iff_not, Bool.not_true, Bool.not_false, Bool.not_eq_true', Bool.not_eq_false', Bool.not_eq_eq_eq_not, Decidable.not_not] at h_) <;> (try simp only [r23_0, r23_1, r23_2, r23_3, r23_4, r23_5, r23_6, c23, F23, vl, c1, h_, go_sem, Int.reduceTMod, Int.reduceTDiv, Int.reduceDiv, Int.reduceMod, Int.reduceAdd, Int.reduceSub, Int.reduceMul, Int.reduceNeg, Int.reducePow, Int.reduceEq, ↓reduceIte, Nat.reduceEqDiff, Nat.reduceAdd, Nat.reduceMul, Nat.reduceLeDiff, Nat.reduceSub, Nat.reduceLT, Int.reduceToNat, Int.reduceLT, Int.reduceLE, reduceCtorEq]))
        · by_cases c2 : t < 0
          · skip
            try simp only [r23_0, r23_1, r23_2, r23_3, r23_4, r23_5, r23_6, c23, F23, vl, c1, c2, go_sem, Int.reduceTMod, Int.reduceTDiv, Int.reduceDiv, Int.reduceMod, Int.reduceAdd, Int.reduceSub, Int.reduceMul, Int.reduceNeg, Int.reducePow, Int.reduceEq, ↓reduceIte, Nat.reduceEqDiff, Nat.reduceAdd, Nat.reduceMul, Nat.reduceLeDiff, Nat.reduceSub, Nat.reduceLT, Int.reduceToNat, Int.reduceLT, Int.reduceLE, reduceCtorEq]
            repeat' ((first | refine FK_split (fun h_ => ?_) (fun h_ => ?_) | refine GK_split (fun h_ => ?_) (fun h_ => ?_) | refine ite_both (fun h_ => ?_) (fun h_ => ?_)) <;> (try simp only [decide_eq_true_eq, decide_eq_false_iff_not, Bool.not_true, Bool.not_false, Bool.not_eq_true', Bool.not_eq_false', Bool.not_eq_eq_eq_not, Decidable.not_not] at h_) <;> (try simp only [r23_0, r23_1, r23_2, r23_3, r23_4, r23_5, r23_6, c23, F23, vl, c1, c2, h_, go_sem, Int.reduceTMod, Int.reduceTDiv, Int.reduceDiv, Int.reduceMod, Int.reduceAdd, Int.reduceSub, Int.reduceMul, Int.reduceNeg, Int.reducePow, Int.reduceEq, ↓reduceIte, Nat.reduceEqDiff, Nat.reduceAdd, Nat.reduceMul, Nat.reduceLeDiff, Nat.reduceSub, Nat.reduceLT, Int.reduceToNat, Int.reduceLT, Int.reduceLE, reduceCtorEq]))
          · have c3 : n < t := by omega
            try simp only [r23_0, r23_1, r23_2, r23_3, r23_4, r23_5, r23_6, c23, F23, vl, c1, c2, c3, go_sem, Int.reduceTMod, Int.reduceTDiv, Int.reduceDiv, Int.reduceMod, Int.reduceAdd, Int.reduceSub, Int.reduceMul, Int.reduceNeg, Int.reducePow, Int.reduceEq, ↓reduceIte, Nat.reduceEqDiff, Nat.reduceAdd, Nat.reduceMul, Nat.reduceLeDiff, Nat.reduceSub, Nat.reduceLT, Int.reduceToNat, Int.reduceLT, Int.reduceLE, reduceCtorEq]
            repeat' ((first | refine FK_split (fun h_ => ?_) (fun h_ => ?_) | refine GK_split (fun h_ => ?_) (fun h_ => ?_) | refine ite_both (fun h_ => ?_) (fun h_ => ?_)) <;> (try simp only [decide_eq_true_eq, decide_eq_false_iff_not, Bool.not_true, Bool.not_false, Bool.not_eq_true', Bool.not_eq_false', Bool.not_eq_eq_eq_not, Decidable.not_not] at h_) <;> (try simp only [r23_0, r23_1, r23_2, r23_3, r23_4, r23_5, r23_6, c23, F23, vl, c1, c2, c3, h_, go_sem, Int.reduceTMod, Int.reduceTDiv, Int.reduceDiv, Int.reduceMod, Int.reduceAdd, Int.reduceSub, Int.reduceMul, Int.reduceNeg, Int.reducePow, Int.reduceEq, ↓reduceIte, Nat.reduceEqDiff, Nat.reduceAdd, Nat.reduceMul, Nat.reduceLeDiff, Nat.reduceSub, Nat.reduceLT, Int.reduceToNat, Int.reduceLT, Int.reduceLE, reduceCtorEq]))
      · have e : plErr ax ay bx b_y t = 0 := by unfold plErr; rw [if_pos ha, if_neg (by rw [hl]; simp), ← hn, if_neg c]
        rw [e, if_pos rfl]
        simp only [Bool.and_eq_true] at ha
        have vp := v_dplace ha.1 ha.2 hl (t := t) (n := n) (by omega) (by omega) (by omega) i2
        have c1 : (n = 0) = False := eq_false (by omega)
        have c2 : (t < 0) = False := eq_false (by omega)
        have c3 : (n < t) = False := eq_false (by omega)
        try simp only [r23_0, r23_1, r23_2, r23_3, r23_4, r23_5, r23_6, c23, F23, vl, vp, c1, c2, c3, go_sem, Int.reduceTMod, Int.reduceTDiv, Int.reduceDiv, Int.reduceMod, Int.reduceAdd, Int.reduceSub, Int.reduceMul, Int.reduceNeg, Int.reducePow, Int.reduceEq, ↓reduceIte, Nat.reduceEqDiff, Nat.reduceAdd, Nat.reduceMul, Nat.reduceLeDiff, Nat.reduceSub, Nat.reduceLT, Int.reduceToNat, Int.reduceLT, Int.reduceLE, reduceCtorEq]
        repeat' ((first | refine FK_split (fun h_ => ?_) (fun h_ => ?_) | refine GK_split (fun h_ => ?_) (fun h_ => ?_) | refine ite_both (fun h_ => ?_) (fun h_ => ?_)) <;> (try simp only [decide_eq_true_eq, decide_eq_false_iff_not, Bool.not_true, Bool.not_false, Bool.not_eq_true', Bool.not_eq_false', Bool.not_eq_eq_eq_not, Decidable.not_not] at h_) <;> (try simp only [r23_0, r23_1, r23_2, r23_3, r23_4, r23_5, r23_6, c23, F23, vl, vp, c1, c2, c3, h_, go_sem, Int.reduceTMod, Int.reduceTDiv, Int.reduceDiv, Int.reduceMod, Int.reduceAdd, Int.reduceSub, Int.reduceMul, Int.reduceNeg, Int.reducePow, Int.reduceEq, ↓reduceIte, Nat.reduceEqDiff, Nat.reduceAdd, Nat.reduceMul, Nat.reduceLeDiff, Nat.reduceSub, Nat.reduceLT, Int.reduceToNat, Int.reduceLT, Int.reduceLE, reduceCtorEq]))
    · simp only [hl, if_true] at vl
      have e : plErr ax ay bx b_y t = 10 := by unfold plErr; rw [if_pos ha, if_pos hl]
      rw [e, if_neg (by decide)]
      try simp only [r23_0, r23_1, r23_2, r23_3, r23_4, r23_5, r23_6, c23, F23, vl, go_sem, Int.reduceTMod, Int.reduceTDiv, Int.reduceDiv, Int.reduceMod, Int.reduceAdd, Int.reduceSub, Int.reduceMul, Int.reduceNeg, Int.reducePow, Int.reduceEq, ↓reduceIte, Nat.reduceEqDiff, Nat.reduceAdd, Nat.reduceMul, Nat.reduceLeDiff, Nat.reduceSub, Nat.reduceLT, Int.reduceToNat, Int.reduceLT, Int.reduceLE, reduceCtorEq]
      repeat' ((first | refine FK_split (fun h_ => ?_) (fun h_ => ?_) | refine GK_split (fun h_ => ?_) (fun h_ => ?_) | refine ite_both (fun h_ => ?_) (fun h_ => ?_)) <;> (try simp only [decide_eq_true_eq, decide_eq_false_iff_not, Bool.not_true, Bool.not_false, Bool.not_eq_true', Bool.not_eq_false', Bool.not_eq_eq_eq_not, Decidable.not_not] at h_) <;> (try simp only [r23_0, r23_1, r23_2, r23_3, r23_4, r23_5, r23_6, c23, F23, vl, h_, go_sem, Int.reduceTMod, Int.reduceTDiv, Int.reduceDiv, Int.reduceMod, Int.reduceAdd, Int.reduceSub, Int.reduceMul, Int.reduceNeg, Int.reducePow, Int.reduceEq, ↓reduceIte, Nat.reduceEqDiff, Nat.reduceAdd, Nat.reduceMul, Nat.reduceLeDiff, Nat.reduceSub, Nat.reduceLT, Int.reduceToNat, Int.reduceLT, Int.reduceLE, reduceCtorEq]))
theorem place_zero (ax ay bx b_y n : Int) (hn : 0 < n) : placeP ax ay bx b_y 0 n = ⟨ax, ay⟩ := by
  unfold placeP rnd
  have e : (2 * (0 : Int) + n) / (2 * n) = 0 := Int.ediv_eq_zero_of_lt (by omega) (by omega)
  rw [Int.zero_mul, Int.zero_mul, e, Int.add_zero, Int.add_zero]
set_option maxHeartbeats 4000000 in
theorem law7 (ax ay bx b_y t : Int) (m : Mem) (k : Nat) : Fn TA 7 [.agg [I ax, I ay], .agg [I bx, I b_y], RI t] m k (fun r _ _ => r = RB true) := by
  refine Fn_ofK (fn := F7) rfl (by simp [F7]) ?_
  have vl := v_Length ax ay bx b_y
  have vp := v_Place ax ay bx b_y t
  have vq := v_Place ax ay bx b_y 0
  cases ha : inP ⟨ax, ay⟩
  · have e : plErr ax ay bx b_y t = 30 := by unfold plErr; rw [ha]; rfl
    have e0 : plErr ax ay bx b_y 0 = 30 := by unfold plErr; rw [ha]; rfl
    simp only [ha, e, Bool.false_and, Bool.false_eq_true, if_false, (show ((30 : Int) = 0) = False by simp)] at vl vp
    try simp only [r7_0, r7_1, r7_2, r7_3, r7_4, r7_5, r7_6, r7_7, r7_8, r7_9, r7_10, r7_11, r7_12, r7_13, c7, F7, vl, vp, v_lin, ha, v_awake, Bool.and_self, go_sem, Int.reduceTMod, Int.reduceTDiv, Int.reduceDiv, Int.reduceMod, Int.reduceAdd, Int.reduceSub, Int.reduceMul, Int.reduceNeg, Int.reducePow, Int.reduceEq, ↓reduceIte, Nat.reduceEqDiff, Nat.reduceAdd, Nat.reduceMul, Nat.reduceLeDiff, Nat.reduceSub, Nat.reduceLT, Int.reduceToNat, Int.reduceLT, Int.reduceLE, reduceCtorEq]
    repeat' ((first | refine FK_split (fun h_ => ?_) (fun h_ => ?_) | refine GK_split (fun h_ => ?_) (fun h_ => ?_) | refine ite_both (fun h_ => ?_) (fun h_ => ?_)) <;> (try simp only [decide_eq_true_eq, decide_eq_false_iff_not, Bool.not_true, Bool.not_false, Bool.not_eq_true', Bool.not_eq_false', Bool.not_eq_eq_eq_not, Decidable.not_not] at h_) <;> (try simp only [r7_0, r7_1, r7_2, r7_3, r7_4, r7_5, r7_6, r7_7, r7_8, r7_9, r7_10, r7_11, r7_12, r7_13, c7, F7, vl, vp, v_lin, ha, v_awake, Bool.and_self, h_, go_sem, Int.reduceTMod, Int.reduceTDiv, Int.reduceDiv, Int.reduceMod, Int.reduceAdd, Int.reduceSub, Int.reduceMul, Int.reduceNeg, Int.reducePow, Int.reduceEq, ↓reduceIte, Nat.reduceEqDiff, Nat.reduceAdd, Nat.reduceMul, Nat.reduceLeDiff, Nat.reduceSub, Nat.reduceLT, Int.reduceToNat, Int.reduceLT, Int.reduceLE, reduceCtorEq]))
  · cases hb : inP ⟨bx, b_y⟩
    · have e : plErr ax ay bx b_y t = 30 := by unfold plErr; rw [ha, hb]; rfl
      simp only [ha, hb, e, Bool.and_false, Bool.false_eq_true, if_false, (show ((30 : Int) = 0) = False by simp)] at vl vp
      try simp only [r7_0, r7_1, r7_2, r7_3, r7_4, r7_5, r7_6, r7_7, r7_8, r7_9, r7_10, r7_11, r7_12, r7_13, c7, F7, vl, vp, v_lin, ha, hb, v_awake, Bool.and_self, go_sem, Int.reduceTMod, Int.reduceTDiv, Int.reduceDiv, Int.reduceMod, Int.reduceAdd, Int.reduceSub, Int.reduceMul, Int.reduceNeg, Int.reducePow, Int.reduceEq, ↓reduceIte, Nat.reduceEqDiff, Nat.reduceAdd, Nat.reduceMul, Nat.reduceLeDiff, Nat.reduceSub, Nat.reduceLT, Int.reduceToNat, Int.reduceLT, Int.reduceLE, reduceCtorEq]
      repeat' ((first | refine FK_split (fun h_ => ?_) (fun h_ => ?_) | refine GK_split (fun h_ => ?_) (fun h_ => ?_) | refine ite_both (fun h_ => ?_) (fun h_ => ?_)) <;> (try simp only [decide_eq_true_eq, decide_eq_false_iff_not, Bool.not_true, Bool.not_false, Bool.not_eq_true', Bool.not_eq_false', Bool.not_eq_eq_eq_not, Decidable.not_not] at h_) <;> (try simp only [r7_0, r7_1, r7_2, r7_3, r7_4, r7_5, r7_6, r7_7, r7_8, r7_9, r7_10, r7_11, r7_12, r7_13, c7, F7, vl, vp, v_lin, ha, hb, v_awake, Bool.and_self, h_, go_sem, Int.reduceTMod, Int.reduceTDiv, Int.reduceDiv, Int.reduceMod, Int.reduceAdd, Int.reduceSub, Int.reduceMul, Int.reduceNeg, Int.reducePow, Int.reduceEq, ↓reduceIte, Nat.reduceEqDiff, Nat.reduceAdd, Nat.reduceMul, Nat.reduceLeDiff, Nat.reduceSub, Nat.reduceLT, Int.reduceToNat, Int.reduceLT, Int.reduceLE, reduceCtorEq]))
    · have vL := v_Long ax ay bx b_y ha hb
      simp only [ha, hb, Bool.and_self, if_true] at vl
      cases hl : longB (bx - ax) (b_y - ay)
      · have rl := v_rLength ax ay bx b_y ha hb hl
        have sq := sq_bd hl
        have i1 := isq_spec (n := (bx - ax) * (bx - ax) + (b_y - ay) * (b_y - ay)) (by omega)
        have i2 := isq_le (n := (bx - ax) * (bx - ax) + (b_y - ay) * (b_y - ay)) (b := 1073741824) (by omega) (by decide) (by omega)
        have e : ∀ t, plErr ax ay bx b_y t = if isq ((bx - ax) * (bx - ax) + (b_y - ay) * (b_y - ay)) = 0 ∨ t < 0 ∨ isq ((bx - ax) * (bx - ax) + (b_y - ay) * (b_y - ay)) < t then 30 else 0 := fun t => by
          unfold plErr; rw [ha, hb, hl]; rfl
        simp only [hl, Bool.false_eq_true, if_false] at vl
        rw [e t] at vp
        rw [e 0] at vq
        generalize hN : isq ((bx - ax) * (bx - ax) + (b_y - ay) * (b_y - ay)) = n at *
        by_cases c : n = 0 ∨ t < 0 ∨ n < t
        · simp only [if_pos c, (show ((30 : Int) = 0) = False by simp), if_false] at vp
          by_cases c1 : n = 0
          · skip
            try simp only [r7_0, r7_1, r7_2, r7_3, r7_4, r7_5, r7_6, r7_7, r7_8, r7_9, r7_10, r7_11, r7_12, r7_13, c7, F7, vl, vp, v_lin, v_lref, vL, rl, ha, hb, hl, c1, v_awake, Bool.and_self, go_sem, Int.reduceTMod, Int.reduceTDiv, Int.reduceDiv, Int.reduceMod, Int.reduceAdd, Int.reduceSub, Int.reduceMul, Int.reduceNeg, Int.reducePow, Int.reduceEq, ↓reduceIte, Nat.reduceEqDiff, Nat.reduceAdd, Nat.reduceMul, Nat.reduceLeDiff, Nat.reduceSub, Nat.reduceLT, Int.reduceToNat, Int.reduceLT, Int.reduceLE, reduceCtorEq]
            repeat' ((first | refine FK_split (fun h_ => ?_) (fun h_ => ?_) | refine GK_split (fun h_ => ?_) (fun h_ => ?_) | refine ite_both (fun h_ => ?_) (fun h_ => ?_)) <;> (try simp only [decide_eq_true_eq, decide_eq_false_iff_not, Bool.not_true, Bool.not_false, Bool.not_eq_true', Bool.not_eq_false', Bool.not_eq_eq_eq_not, Decidable.not_not] at h_) <;> (try simp only [r7_0, r7_1, r7_2, r7_3, r7_4, r7_5, r7_6, r7_7, r7_8, r7_9, r7_10, r7_11, r7_12, r7_13, c7, F7, vl, vp, v_lin, v_lref, vL, rl, ha, hb, hl, c1, v_awake, Bool.and_self, h_, go_sem, Int.reduceTMod, Int.reduceTDiv, Int.reduceDiv, Int.reduceMod, Int.reduceAdd, Int.reduceSub, Int.reduceMul, Int.reduceNeg, Int.reducePow, Int.reduceEq, ↓reduceIte, Nat.reduceEqDiff, Nat.reduceAdd, Nat.reduceMul, Nat.reduceLeDiff, Nat.reduceSub, Nat.reduceLT, Int.reduceToNat, Int.reduceLT, Int.reduceLE, reduceCtorEq]))
          · by_cases c2 : t < 0
            · skip
              try simp only [r7_0, r7_1, r7_2, r7_3, r7_4, r7_5, r7_6, r7_7, r7_8, r7_9, r7_10, r7_11, r7_12, r7_13, c7, F7, vl, vp, v_lin, v_lref, vL, rl, ha, hb, hl, c1, c2, v_awake, Bool.and_self, go_sem, Int.reduceTMod, Int.reduceTDiv, Int.reduceDiv, Int.reduceMod, Int.reduceAdd, Int.reduceSub, Int.reduceMul, Int.reduceNeg, Int.reducePow, Int.reduceEq, ↓reduceIte, Nat.reduceEqDiff, Nat.reduceAdd, Nat.reduceMul, Nat.reduceLeDiff, Nat.reduceSub, Nat.reduceLT, Int.reduceToNat, Int.reduceLT, Int.reduceLE, reduceCtorEq]
              repeat' ((first | refine FK_split (fun h_ => ?_) (fun h_ => ?_) | refine GK_split (fun h_ => ?_) (fun h_ => ?_) | refine ite_both (fun h_ => ?_) (fun h_ => ?_)) <;> (try simp only [decide_eq_true_eq, decide_eq_false_iff_not, Bool.not_true, Bool.not_false, Bool.not_eq_true', Bool.not_eq_false', Bool.not_eq_eq_eq_not, Decidable.not_not] at h_) <;> (try simp only [r7_0, r7_1, r7_2, r7_3, r7_4, r7_5, r7_6, r7_7, r7_8, r7_9, r7_10, r7_11, r7_12, r7_13, c7, F7, vl, vp, v_lin, v_lref, vL, rl, ha, hb, hl, c1, c2, v_awake, Bool.and_self, h_, go_sem, Int.reduceTMod, Int.reduceTDiv, Int.reduceDiv, Int.reduceMod, Int.reduceAdd, Int.reduceSub, Int.reduceMul, Int.reduceNeg, Int.reducePow, Int.reduceEq, ↓reduceIte, Nat.reduceEqDiff, Nat.reduceAdd, Nat.reduceMul, Nat.reduceLeDiff, Nat.reduceSub, Nat.reduceLT, Int.reduceToNat, Int.reduceLT, Int.reduceLE, reduceCtorEq]))
            · have c3 : n < t := by omega
              try simp only [r7_0, r7_1, r7_2, r7_3, r7_4, r7_5, r7_6, r7_7, r7_8, r7_9, r7_10, r7_11, r7_12, r7_13, c7, F7, vl, vp, v_lin, v_lref, vL, rl, ha, hb, hl, c1, c2, c3, v_awake, Bool.and_self, go_sem, Int.reduceTMod, Int.reduceTDiv, Int.reduceDiv, Int.reduceMod, Int.reduceAdd, Int.reduceSub, Int.reduceMul, Int.reduceNeg, Int.reducePow, Int.reduceEq, ↓reduceIte, Nat.reduceEqDiff, Nat.reduceAdd, Nat.reduceMul, Nat.reduceLeDiff, Nat.reduceSub, Nat.reduceLT, Int.reduceToNat, Int.reduceLT, Int.reduceLE, reduceCtorEq]
              repeat' ((first | refine FK_split (fun h_ => ?_) (fun h_ => ?_) | refine GK_split (fun h_ => ?_) (fun h_ => ?_) | refine ite_both (fun h_ => ?_) (fun h_ => ?_)) <;> (try simp only [decide_eq_true_eq, decide_eq_false_iff_not, Bool.not_true, Bool.not_false, Bool.not_eq_true', Bool.not_eq_false', Bool.not_eq_eq_eq_not, Decidable.not_not] at h_) <;> (try simp only [r7_0, r7_1, r7_2, r7_3, r7_4, r7_5, r7_6, r7_7, r7_8, r7_9, r7_10, r7_11, r7_12, r7_13, c7, F7, vl, vp, v_lin, v_lref, vL, rl, ha, hb, hl, c1, c2, c3, v_awake, Bool.and_self, h_, go_sem, Int.reduceTMod, Int.reduceTDiv, Int.reduceDiv, Int.reduceMod, Int.reduceAdd, Int.reduceSub, Int.reduceMul, Int.reduceNeg, Int.reducePow, Int.reduceEq, ↓reduceIte, Nat.reduceEqDiff, Nat.reduceAdd, Nat.reduceMul, Nat.reduceLeDiff, Nat.reduceSub, Nat.reduceLT, Int.reduceToNat, Int.reduceLT, Int.reduceLE, reduceCtorEq]))
        · have c1 : (n = 0) = False := eq_false (by omega)
          have c2 : (t < 0) = False := eq_false (by omega)
          have c3 : (n < t) = False := eq_false (by omega)
          simp only [if_neg c, if_true] at vp
          rw [if_neg (show ¬ (n = 0 ∨ (0 : Int) < 0 ∨ n < 0) by omega)] at vq
          simp only [if_true, place_zero ax ay bx b_y n (by omega)] at vq
          have rp := v_rplace ha hb hl (t := t) (n := n) (by omega) (by omega) (by omega) i2
          try simp only [r7_0, r7_1, r7_2, r7_3, r7_4, r7_5, r7_6, r7_7, r7_8, r7_9, r7_10, r7_11, r7_12, r7_13, c7, F7, vl, vp, vq, v_lin, v_lref, vL, rl, rp, ha, hb, hl, c1, c2, c3, v_awake, Bool.and_self, Bool.and_true, go_sem, Int.reduceTMod, Int.reduceTDiv, Int.reduceDiv, Int.reduceMod, Int.reduceAdd, Int.reduceSub, Int.reduceMul, Int.reduceNeg, Int.reducePow, Int.reduceEq, ↓reduceIte, Nat.reduceEqDiff, Nat.reduceAdd, Nat.reduceMul, Nat.reduceLeDiff, Nat.reduceSub, Nat.reduceLT, Int.reduceToNat, Int.reduceLT, Int.reduceLE, reduceCtorEq]
          repeat' ((first | refine FK_split (fun h_ => ?_) (fun h_ => ?_) | refine GK_split (fun h_ => ?_) (fun h_ => ?_) | refine ite_both (fun h_ => ?_) (fun h_ => ?_)) <;> (try simp only [decide_eq_true_eq, decide_eq_false_iff_not, Bool.not_true, Bool.not_false, Bool.not_eq_true', Bool.not_eq_false', Bool.not_eq_eq_eq_not, Decidable.not_not] at h_) <;> (try simp only [r7_0, r7_1, r7_2, r7_3, r7_4, r7_5, r7_6, r7_7, r7_8, r7_9, r7_10, r7_11, r7_12, r7_13, c7, F7, vl, vp, vq, v_lin, v_lref, vL, rl, rp, ha, hb, hl, c1, c2, c3, v_awake, Bool.and_self, Bool.and_true, h_, go_sem, Int.reduceTMod, Int.reduceTDiv, Int.reduceDiv, Int.reduceMod, Int.reduceAdd, Int.reduceSub, Int.reduceMul, Int.reduceNeg, Int.reducePow, Int.reduceEq, ↓reduceIte, Nat.reduceEqDiff, Nat.reduceAdd, Nat.reduceMul, Nat.reduceLeDiff, Nat.reduceSub, Nat.reduceLT, Int.reduceToNat, Int.reduceLT, Int.reduceLE, reduceCtorEq]))
      · have e : plErr ax ay bx b_y t = 10 := by unfold plErr; rw [ha, hb, hl]; rfl
        simp only [hl, e, if_true, (show ((10 : Int) = 0) = False by simp), if_false] at vl vp
        try simp only [r7_0, r7_1, r7_2, r7_3, r7_4, r7_5, r7_6, r7_7, r7_8, r7_9, r7_10, r7_11, r7_12, r7_13, c7, F7, vl, vp, v_lin, v_lref, vL, ha, hb, hl, v_awake, Bool.and_self, go_sem, Int.reduceTMod, Int.reduceTDiv, Int.reduceDiv, Int.reduceMod, Int.reduceAdd, Int.reduceSub, Int.reduceMul, Int.reduceNeg, Int.reducePow, Int.reduceEq, ↓reduceIte, Nat.reduceEqDiff, Nat.reduceAdd, Nat.reduceMul, Nat.reduceLeDiff, Nat.reduceSub, Nat.reduceLT, Int.reduceToNat, Int.reduceLT, Int.reduceLE, reduceCtorEq]
        repeat' ((first | refine FK_split (fun h_ => ?_) (fun h_ => ?_) | refine GK_split (fun h_ => ?_) (fun h_ => ?_) | refine ite_both (fun h_ => ?_) (fun h_ => ?_)) <;> (try simp only [decide_eq_true_eq, decide_eq_false_iff_not, Bool.not_true, Bool.not_false, Bool.not_eq_true', Bool.not_eq_false', Bool.not_eq_eq_eq_not, Decidable.not_not] at h_) <;> (try simp only [r7_0, r7_1, r7_2, r7_3, r7_4, r7_5, r7_6, r7_7, r7_8, r7_9, r7_10, r7_11, r7_12, r7_13, c7, F7, vl, vp, v_lin, v_lref, vL, ha, hb, hl, v_awake, Bool.and_self, h_, go_sem, Int.reduceTMod, Int.reduceTDiv, Int.reduceDiv, Int.reduceMod, Int.reduceAdd, Int.reduceSub, Int.reduceMul, Int.reduceNeg, Int.reducePow, Int.reduceEq, ↓reduceIte, Nat.reduceEqDiff, Nat.reduceAdd, Nat.reduceMul, Nat.reduceLeDiff, Nat.reduceSub, Nat.reduceLT, Int.reduceToNat, Int.reduceLT, Int.reduceLE, reduceCtorEq]))
theorem rowL7 (hmix : Try.prog.follows .mixedOrders = true) (W : World) (l0 : List Value) (h0 : CksOk [.int .i64, .int .i64] l0) (l1 : List Value) (h1 : CksOk [.int .i64, .int .i64] l1) (t : Int) (_ : IntKind.i64.min ≤ t ∧ t ≤ IntKind.i64.max) :
    Calls Try.prog 7 #[.agg l0.toArray, .agg l1.toArray, .int .i64 t] W (fun e w' => e = .returned (.bool true) ∧ Go.RowKit.Below W.heap.size W w') := by
  have r0 := h0.rel (ρ := fun _ => (0, 0)) (n := 0) (w := W)
  have r1 := h1.rel (ρ := fun _ => (0, 0)) (n := 0) (w := W)
  obtain ⟨ax, _, rfl, _, ay, _, rfl, _, rfl⟩ := h0
  obtain ⟨bx, _, rfl, _, b_y, _, rfl, _, rfl⟩ := h1
  exact law_calls (ng := 0) (ρ := fun _ => (0, 0)) hmix TA_ok (law7 ax ay bx b_y t _ 0) (noMem _ _ _) (fun _ h => by omega) ⟨_, _, rfl, ⟨_, rfl, r0⟩, _, _, rfl, ⟨_, rfl, r1⟩, _, _, rfl, ⟨rfl, rfl⟩, rfl⟩ held_none

/- Ways along subpaths. Conditions: those that each theorem names. -/
open Go Go.Proofs
set_option linter.unusedSimpArgs false
set_option linter.unusedVariables false

/-- Is a line ahead of a place too long? -/
def anyLg (w : List Pt) : Nat → Bool
  | 0 => false
  | i + 1 => anyLg w i || (match w[i - 1]?, w[i]? with
    | some p, some q => decide (i ≠ 0) && longB (q.x - p.x) (q.y - p.y)
    | _, _ => false)
theorem anyLg_one (w : List Pt) : anyLg w 1 = false := by
  simp only [anyLg, Bool.false_or]
  split <;> simp
theorem anyLg_succ {w : List Pt} {i : Nat} {p q : Pt} (hi : 0 < i) (hp : w[i - 1]? = some p) (hq : w[i]? = some q) : anyLg w (i + 1) = (anyLg w i || longB (q.x - p.x) (q.y - p.y)) := by
  rw [anyLg, hp, hq]
  have : decide (i ≠ 0) = true := decide_eq_true (by omega)
  simp only [this, Bool.true_and]
theorem anyLg_mono {w : List Pt} {i : Nat} (h : anyLg w i = true) : ∀ j, i ≤ j → anyLg w j = true := by
  intro j hj
  induction j with
  | zero => obtain rfl : i = 0 := by omega
            exact h
  | succ j ih =>
    by_cases e : i = j + 1
    · rw [← e]; exact h
    · rw [anyLg, ih (by omega), Bool.true_or]
/-- The points of a way. -/
def wayL (l : List Pt) (c : Bool) : List Pt := if c = true ∧ 1 < (pln l l.length).length ∧ (pln l l.length)[(pln l l.length).length - 1]? ≠ (pln l l.length)[0]? then pln l l.length ++ (pln l l.length).take 1 else pln l l.length
theorem way_all {l : List Pt} {c : Bool} (h : l.all inP = true) : (wayL l c).all inP = true := by
  have hp := pln_all h l.length
  unfold wayL
  split
  · rw [List.all_append, hp, Bool.true_and]
    exact List.all_eq_true.2 (fun x hx => List.all_eq_true.1 hp x (List.mem_of_mem_take hx))
  · exact hp
theorem v_LenOk {p q : Pt} (hp : inP p = true) (hq : inP q = true) (hl : longB (q.x - p.x) (q.y - p.y) = false) (m : Mem) (n : Nat) : callF TA 22 [.agg [I p.x, I p.y], .agg [I q.x, I q.y]] m n = some (.tup [RI (isq ((q.x - p.x) * (q.x - p.x) + (q.y - p.y) * (q.y - p.y))), RI 0]) := by
  rw [v_Length, if_pos (by rw [show inP ⟨p.x, p.y⟩ = true from hp, show inP ⟨q.x, q.y⟩ = true from hq]; rfl), hl]
  rfl
theorem v_LenLong {p q : Pt} (hp : inP p = true) (hq : inP q = true) (hl : longB (q.x - p.x) (q.y - p.y) = true) (m : Mem) (n : Nat) : callF TA 22 [.agg [I p.x, I p.y], .agg [I q.x, I q.y]] m n = some (.tup [RI 0, RI 10]) := by
  rw [v_Length, if_pos (by rw [show inP ⟨p.x, p.y⟩ = true from hp, show inP ⟨q.x, q.y⟩ = true from hq]; rfl), hl]
  rfl
theorem way_loop {K : Kt} {M : Mem} {N : Nat} {r : Reg} {w : List Pt} (hr : RPt M N r w) (hw : w.all inP = true) (hl : w.length < 4294967296) {e : Nat → Reg} (e4 : e 4 = r) (e5 : e 5 = RI 1)
    (hx : anyLg w w.length = false → ∀ s, s.e 4 = r → s.m = M → s.n = N → KX TA K 0 s) (hret : anyLg w w.length = true → ∀ s, s.e 2 = rnil → s.e 3 = RI 10 → s.m = M → s.n = N → KR TA K s) :
    XK TA (.loop l14_0) ⟨e, M, N⟩ K := by
  have hlen := hr.len
  by_cases h1 : w.length ≤ 1
  · have a1 : anyLg w w.length = false := by
      match w, h1 with
      | [], _ => rfl
      | [p], _ => exact anyLg_one _
    have c2 : ((1 : Int) < (w.length : Int)) = False := eq_false (by omega)
    rw [XK_loop]
    try simp only [r14_0, r14_1, r14_2, r14_3, r14_4, r14_5, r14_6, r14_7, r14_9, r14_10, r14_11, r14_8, r14_12, c14, F14, l14_0, e4, e5, hlen, c2, go_sem, Int.reduceTMod, Int.reduceTDiv, Int.reduceDiv, Int.reduceMod, Int.reduceAdd, Int.reduceSub, Int.reduceMul, Int.reduceNeg, Int.reducePow, Int.reduceEq, ↓reduceIte, Nat.reduceEqDiff, Nat.reduceAdd, Nat.reduceMul, Nat.reduceLeDiff, Nat.reduceSub, Nat.reduceLT, Int.reduceToNat, Int.reduceLT, Int.reduceLE, reduceCtorEq]
    repeat' ((first | refine FK_split (fun h_ => ?_) (fun h_ => ?_) | refine GK_split (fun h_ => ?_) (fun h_ => ?_) | refine ite_both (fun h_ => ?_) (fun h_ => ?_)) <;> (try simp only [decide_eq_true_eq, decide_eq_false_iff_not, Bool.not_true, Bool.not_false, Bool.not_eq_true', Bool.not_eq_false', Bool.not_eq_eq_eq_not, Decidable.not_not] at h_) <;> (try simp only [r14_0, r14_1, r14_2, r14_3, r14_4, r14_5, r14_6, r14_7, r14_9, r14_10, r14_11, r14_8, r14_12, c14, F14, l14_0, e4, e5, hlen, c2, h_, go_sem, Int.reduceTMod, Int.reduceTDiv, Int.reduceDiv, Int.reduceMod, Int.reduceAdd, Int.reduceSub, Int.reduceMul, Int.reduceNeg, Int.reducePow, Int.reduceEq, ↓reduceIte, Nat.reduceEqDiff, Nat.reduceAdd, Nat.reduceMul, Nat.reduceLeDiff, Nat.reduceSub, Nat.reduceLT, Int.reduceToNat, Int.reduceLT, Int.reduceLE, reduceCtorEq]))
    exact hx a1 _ (by simp only [e4, go_sem, Int.reduceTMod, Int.reduceTDiv, Int.reduceDiv, Int.reduceMod, Int.reduceAdd, Int.reduceSub, Int.reduceMul, Int.reduceNeg, Int.reducePow, Int.reduceEq, ↓reduceIte, Nat.reduceEqDiff, Nat.reduceAdd, Nat.reduceMul, Nat.reduceLeDiff, Nat.reduceSub, Nat.reduceLT, Int.reduceToNat, Int.reduceLT, Int.reduceLE, reduceCtorEq]) rfl rfl
  · refine XK_iter (inv := fun i s => s.e 5 = RI i ∧ s.e 4 = r ∧ s.m = M ∧ s.n = N ∧ 1 ≤ i ∧ anyLg w i = false) w.length
      (fun L _ => ⟨fun i hi s hs next => ?_, fun s hs => ?_⟩) 1 (by omega) _ ⟨e5, e4, rfl, rfl, by omega, anyLg_one w⟩
    · obtain ⟨e', M', N'⟩ := s
      obtain ⟨q5, q4, qm, qn, q1, qa⟩ := hs
      simp only at q5 q4 qm qn q1 qa
      subst qm
      subst qn
      have hp : w[i - 1]? = some (w[i - 1]'(by omega)) := List.getElem?_eq_getElem (by omega)
      have hq : w[i]? = some w[i] := List.getElem?_eq_getElem hi
      obtain ⟨id, off, cap, hr1, hid, hrd⟩ := hr.at cs2 hp
      obtain ⟨id', off', cap', hr1', hid', hrd'⟩ := hr.at cs2 hq
      rw [hr1] at hr1'
      simp only [Reg.one.injEq, Cell.sl.injEq, true_and] at hr1'
      obtain ⟨rfl, rfl, rfl, _⟩ := hr1'
      have ip := all_at hw hp
      have iq := all_at hw hq
      have c2 : ((i : Int) < (w.length : Int)) = True := eq_true (by omega)
      have c3 : (0 ≤ (i : Int)) = True := eq_true (by omega)
      have c5 : IntKind.i64.wrap ((i : Int) - 1) = ((i - 1 : Nat) : Int) := (wr_eq (by omega) (by omega)).trans (by omega)
      have c6 : (((i - 1 : Nat) : Int) < (w.length : Int)) = True := eq_true (by omega)
      have c7 : IntKind.i64.wrap ((i : Int) + 1) = ((i + 1 : Nat) : Int) := wr_nat (by omega)
      have c8 : (0 ≤ ((i - 1 : Nat) : Int)) = True := eq_true (by omega)
      have hs := anyLg_succ (by omega) hp hq
      rw [qa, Bool.false_or] at hs
      generalize (w[i - 1]'(by omega)) = p at *
      generalize w[i] = q at *
      rw [hr1] at q4
      cases hlg : longB (q.x - p.x) (q.y - p.y)
      · have vl := v_LenOk ip iq hlg
        try simp only [r14_0, r14_1, r14_2, r14_3, r14_4, r14_5, r14_6, r14_7, r14_9, r14_10, r14_11, r14_8, r14_12, c14, F14, l14_0, q5, q4, c2, c3, c5, c6, c7, c8, hrd, hrd', vl, Int.toNat_natCast, go_sem, Int.reduceTMod, Int.reduceTDiv, Int.reduceDiv, Int.reduceMod, Int.reduceAdd, Int.reduceSub, Int.reduceMul, Int.reduceNeg, Int.reducePow, Int.reduceEq, ↓reduceIte, Nat.reduceEqDiff, Nat.reduceAdd, Nat.reduceMul, Nat.reduceLeDiff, Nat.reduceSub, Nat.reduceLT, Int.reduceToNat, Int.reduceLT, Int.reduceLE, reduceCtorEq]
        repeat' ((first | refine FK_split (fun h_ => ?_) (fun h_ => ?_) | refine GK_split (fun h_ => ?_) (fun h_ => ?_) | refine ite_both (fun h_ => ?_) (fun h_ => ?_)) <;> (try simp only [decide_eq_true_eq, decide_eq_false_iff_not, Bool.not_true, Bool.not_false, Bool.not_eq_true', Bool.not_eq_false', Bool.not_eq_eq_eq_not, Decidable.not_not] at h_) <;> (try simp only [r14_0, r14_1, r14_2, r14_3, r14_4, r14_5, r14_6, r14_7, r14_9, r14_10, r14_11, r14_8, r14_12, c14, F14, l14_0, q5, q4, c2, c3, c5, c6, c7, c8, hrd, hrd', vl, Int.toNat_natCast, h_, go_sem, Int.reduceTMod, Int.reduceTDiv, Int.reduceDiv, Int.reduceMod, Int.reduceAdd, Int.reduceSub, Int.reduceMul, Int.reduceNeg, Int.reducePow, Int.reduceEq, ↓reduceIte, Nat.reduceEqDiff, Nat.reduceAdd, Nat.reduceMul, Nat.reduceLeDiff, Nat.reduceSub, Nat.reduceLT, Int.reduceToNat, Int.reduceLT, Int.reduceLE, reduceCtorEq]))
        refine next _ ⟨?_, ?_, ?_, ?_, ?_, ?_⟩
        · simp only [go_sem, Int.reduceTMod, Int.reduceTDiv, Int.reduceDiv, Int.reduceMod, Int.reduceAdd, Int.reduceSub, Int.reduceMul, Int.reduceNeg, Int.reducePow, Int.reduceEq, ↓reduceIte, Nat.reduceEqDiff, Nat.reduceAdd, Nat.reduceMul, Nat.reduceLeDiff, Nat.reduceSub, Nat.reduceLT, Int.reduceToNat, Int.reduceLT, Int.reduceLE, reduceCtorEq]
        · simp only [q4, hr1, go_sem, Int.reduceTMod, Int.reduceTDiv, Int.reduceDiv, Int.reduceMod, Int.reduceAdd, Int.reduceSub, Int.reduceMul, Int.reduceNeg, Int.reducePow, Int.reduceEq, ↓reduceIte, Nat.reduceEqDiff, Nat.reduceAdd, Nat.reduceMul, Nat.reduceLeDiff, Nat.reduceSub, Nat.reduceLT, Int.reduceToNat, Int.reduceLT, Int.reduceLE, reduceCtorEq]
        · rfl
        · rfl
        · omega
        · rw [hs, hlg]
      · have vl := v_LenLong ip iq hlg
        try simp only [r14_0, r14_1, r14_2, r14_3, r14_4, r14_5, r14_6, r14_7, r14_9, r14_10, r14_11, r14_8, r14_12, c14, F14, l14_0, q5, q4, c2, c3, c5, c6, c7, c8, hrd, hrd', vl, Int.toNat_natCast, go_sem, Int.reduceTMod, Int.reduceTDiv, Int.reduceDiv, Int.reduceMod, Int.reduceAdd, Int.reduceSub, Int.reduceMul, Int.reduceNeg, Int.reducePow, Int.reduceEq, ↓reduceIte, Nat.reduceEqDiff, Nat.reduceAdd, Nat.reduceMul, Nat.reduceLeDiff, Nat.reduceSub, Nat.reduceLT, Int.reduceToNat, Int.reduceLT, Int.reduceLE, reduceCtorEq]
        repeat' ((first | refine FK_split (fun h_ => ?_) (fun h_ => ?_) | refine GK_split (fun h_ => ?_) (fun h_ => ?_) | refine ite_both (fun h_ => ?_) (fun h_ => ?_)) <;> (try simp only [decide_eq_true_eq, decide_eq_false_iff_not, Bool.not_true, Bool.not_false, Bool.not_eq_true', Bool.not_eq_false', Bool.not_eq_eq_eq_not, Decidable.not_not] at h_) <;> (try simp only [r14_0, r14_1, r14_2, r14_3, r14_4, r14_5, r14_6, r14_7, r14_9, r14_10, r14_11, r14_8, r14_12, c14, F14, l14_0, q5, q4, c2, c3, c5, c6, c7, c8, hrd, hrd', vl, Int.toNat_natCast, h_, go_sem, Int.reduceTMod, Int.reduceTDiv, Int.reduceDiv, Int.reduceMod, Int.reduceAdd, Int.reduceSub, Int.reduceMul, Int.reduceNeg, Int.reducePow, Int.reduceEq, ↓reduceIte, Nat.reduceEqDiff, Nat.reduceAdd, Nat.reduceMul, Nat.reduceLeDiff, Nat.reduceSub, Nat.reduceLT, Int.reduceToNat, Int.reduceLT, Int.reduceLE, reduceCtorEq]))
        refine hret (anyLg_mono (by rw [hs, hlg]) _ (by omega)) _ ?_ ?_ rfl rfl
        · simp only [go_sem, Int.reduceTMod, Int.reduceTDiv, Int.reduceDiv, Int.reduceMod, Int.reduceAdd, Int.reduceSub, Int.reduceMul, Int.reduceNeg, Int.reducePow, Int.reduceEq, ↓reduceIte, Nat.reduceEqDiff, Nat.reduceAdd, Nat.reduceMul, Nat.reduceLeDiff, Nat.reduceSub, Nat.reduceLT, Int.reduceToNat, Int.reduceLT, Int.reduceLE, reduceCtorEq]
        · simp only [go_sem, Int.reduceTMod, Int.reduceTDiv, Int.reduceDiv, Int.reduceMod, Int.reduceAdd, Int.reduceSub, Int.reduceMul, Int.reduceNeg, Int.reducePow, Int.reduceEq, ↓reduceIte, Nat.reduceEqDiff, Nat.reduceAdd, Nat.reduceMul, Nat.reduceLeDiff, Nat.reduceSub, Nat.reduceLT, Int.reduceToNat, Int.reduceLT, Int.reduceLE, reduceCtorEq]
    · obtain ⟨e', M', N'⟩ := s
      obtain ⟨q5, q4, qm, qn, q1, qa⟩ := hs
      simp only at q5 q4 qm qn q1 qa
      have c2 : ((w.length : Int) < (w.length : Int)) = False := eq_false (by omega)
      try simp only [r14_0, r14_1, r14_2, r14_3, r14_4, r14_5, r14_6, r14_7, r14_9, r14_10, r14_11, r14_8, r14_12, c14, F14, l14_0, q5, q4, c2, hlen, go_sem, Int.reduceTMod, Int.reduceTDiv, Int.reduceDiv, Int.reduceMod, Int.reduceAdd, Int.reduceSub, Int.reduceMul, Int.reduceNeg, Int.reducePow, Int.reduceEq, ↓reduceIte, Nat.reduceEqDiff, Nat.reduceAdd, Nat.reduceMul, Nat.reduceLeDiff, Nat.reduceSub, Nat.reduceLT, Int.reduceToNat, Int.reduceLT, Int.reduceLE, reduceCtorEq]
      repeat' ((first | refine FK_split (fun h_ => ?_) (fun h_ => ?_) | refine GK_split (fun h_ => ?_) (fun h_ => ?_) | refine ite_both (fun h_ => ?_) (fun h_ => ?_)) <;> (try simp only [decide_eq_true_eq, decide_eq_false_iff_not, Bool.not_true, Bool.not_false, Bool.not_eq_true', Bool.not_eq_false', Bool.not_eq_eq_eq_not, Decidable.not_not] at h_) <;> (try simp only [r14_0, r14_1, r14_2, r14_3, r14_4, r14_5, r14_6, r14_7, r14_9, r14_10, r14_11, r14_8, r14_12, c14, F14, l14_0, q5, q4, c2, hlen, h_, go_sem, Int.reduceTMod, Int.reduceTDiv, Int.reduceDiv, Int.reduceMod, Int.reduceAdd, Int.reduceSub, Int.reduceMul, Int.reduceNeg, Int.reducePow, Int.reduceEq, ↓reduceIte, Nat.reduceEqDiff, Nat.reduceAdd, Nat.reduceMul, Nat.reduceLeDiff, Nat.reduceSub, Nat.reduceLT, Int.reduceToNat, Int.reduceLT, Int.reduceLE, reduceCtorEq]))
      exact hx qa _ (by simp only [q4, go_sem, Int.reduceTMod, Int.reduceTDiv, Int.reduceDiv, Int.reduceMod, Int.reduceAdd, Int.reduceSub, Int.reduceMul, Int.reduceNeg, Int.reducePow, Int.reduceEq, ↓reduceIte, Nat.reduceEqDiff, Nat.reduceAdd, Nat.reduceMul, Nat.reduceLeDiff, Nat.reduceSub, Nat.reduceLT, Int.reduceToNat, Int.reduceLT, Int.reduceLE, reduceCtorEq]) qm qn
theorem rway_loop {K : Kt} {M : Mem} {N : Nat} {r : Reg} {w : List Pt} (hr : RPt M N r w) (hw : w.all inP = true) (hl : w.length < 4294967296) {e : Nat → Reg} (e6 : e 6 = r) (e7 : e 7 = RI 1)
    (hx : anyLg w w.length = false → ∀ s, s.e 6 = r → s.m = M → s.n = N → KX TA K 0 s) (hret : anyLg w w.length = true → ∀ s, s.e 4 = rnil → s.e 5 = RB false → s.m = M → s.n = N → KR TA K s) :
    XK TA (.loop l16_0) ⟨e, M, N⟩ K := by
  have hlen := hr.len
  by_cases h1 : w.length ≤ 1
  · have a1 : anyLg w w.length = false := by
      match w, h1 with
      | [], _ => rfl
      | [p], _ => exact anyLg_one _
    have c2 : ((1 : Int) < (w.length : Int)) = False := eq_false (by omega)
    rw [XK_loop]
    try simp only [r16_0, r16_1, r16_2, r16_3, r16_4, r16_5, r16_7, r16_8, r16_6, r16_9, c16, F16, l16_0, e6, e7, hlen, c2, go_sem, Int.reduceTMod, Int.reduceTDiv, Int.reduceDiv, Int.reduceMod, Int.reduceAdd, Int.reduceSub, Int.reduceMul, Int.reduceNeg, Int.reducePow, Int.reduceEq, ↓reduceIte, Nat.reduceEqDiff, Nat.reduceAdd, Nat.reduceMul, Nat.reduceLeDiff, Nat.reduceSub, Nat.reduceLT, Int.reduceToNat, Int.reduceLT, Int.reduceLE, reduceCtorEq]
    repeat' ((first | refine FK_split (fun h_ => ?_) (fun h_ => ?_) | refine GK_split (fun h_ => ?_) (fun h_ => ?_) | refine ite_both (fun h_ => ?_) (fun h_ => ?_)) <;> (try simp only [decide_eq_true_eq, decide_eq_false_iff_not, Bool.not_true, Bool.not_false, Bool.not_eq_true', Bool.not_eq_false', Bool.not_eq_eq_eq_not, Decidable.not_not] at h_) <;> (try simp only [r16_0, r16_1, r16_2, r16_3, r16_4, r16_5, r16_7, r16_8, r16_6, r16_9, c16, F16, l16_0, e6, e7, hlen, c2, h_, go_sem, Int.reduceTMod, Int.reduceTDiv, Int.reduceDiv, Int.reduceMod, Int.reduceAdd, Int.reduceSub, Int.reduceMul, Int.reduceNeg, Int.reducePow, Int.reduceEq, ↓reduceIte, Nat.reduceEqDiff, Nat.reduceAdd, Nat.reduceMul, Nat.reduceLeDiff, Nat.reduceSub, Nat.reduceLT, Int.reduceToNat, Int.reduceLT, Int.reduceLE, reduceCtorEq]))
    exact hx a1 _ (by simp only [e6, go_sem, Int.reduceTMod, Int.reduceTDiv, Int.reduceDiv, Int.reduceMod, Int.reduceAdd, Int.reduceSub, Int.reduceMul, Int.reduceNeg, Int.reducePow, Int.reduceEq, ↓reduceIte, Nat.reduceEqDiff, Nat.reduceAdd, Nat.reduceMul, Nat.reduceLeDiff, Nat.reduceSub, Nat.reduceLT, Int.reduceToNat, Int.reduceLT, Int.reduceLE, reduceCtorEq]) rfl rfl
  · refine XK_iter (inv := fun i s => s.e 7 = RI i ∧ s.e 6 = r ∧ s.m = M ∧ s.n = N ∧ 1 ≤ i ∧ anyLg w i = false) w.length
      (fun L _ => ⟨fun i hi s hs next => ?_, fun s hs => ?_⟩) 1 (by omega) _ ⟨e7, e6, rfl, rfl, by omega, anyLg_one w⟩
    · obtain ⟨e', M', N'⟩ := s
      obtain ⟨q5, q4, qm, qn, q1, qa⟩ := hs
      simp only at q5 q4 qm qn q1 qa
      subst qm
      subst qn
      have hp : w[i - 1]? = some (w[i - 1]'(by omega)) := List.getElem?_eq_getElem (by omega)
      have hq : w[i]? = some w[i] := List.getElem?_eq_getElem hi
      obtain ⟨id, off, cap, hr1, hid, hrd⟩ := hr.at cs2 hp
      obtain ⟨id', off', cap', hr1', hid', hrd'⟩ := hr.at cs2 hq
      rw [hr1] at hr1'
      simp only [Reg.one.injEq, Cell.sl.injEq, true_and] at hr1'
      obtain ⟨rfl, rfl, rfl, _⟩ := hr1'
      have ip := all_at hw hp
      have iq := all_at hw hq
      have c2 : ((i : Int) < (w.length : Int)) = True := eq_true (by omega)
      have c3 : (0 ≤ (i : Int)) = True := eq_true (by omega)
      have c5 : IntKind.i64.wrap ((i : Int) - 1) = ((i - 1 : Nat) : Int) := (wr_eq (by omega) (by omega)).trans (by omega)
      have c6 : (((i - 1 : Nat) : Int) < (w.length : Int)) = True := eq_true (by omega)
      have c7 : IntKind.i64.wrap ((i : Int) + 1) = ((i + 1 : Nat) : Int) := wr_nat (by omega)
      have c8 : (0 ≤ ((i - 1 : Nat) : Int)) = True := eq_true (by omega)
      have hs := anyLg_succ (by omega) hp hq
      rw [qa, Bool.false_or] at hs
      generalize (w[i - 1]'(by omega)) = p at *
      generalize w[i] = q at *
      rw [hr1] at q4
      have vl := v_Long p.x p.y q.x q.y ip iq
      cases hlg : longB (q.x - p.x) (q.y - p.y)
      · skip
        try simp only [r16_0, r16_1, r16_2, r16_3, r16_4, r16_5, r16_7, r16_8, r16_6, r16_9, c16, F16, l16_0, q5, q4, c2, c3, c5, c6, c7, c8, hrd, hrd', vl, hlg, Int.toNat_natCast, go_sem, Int.reduceTMod, Int.reduceTDiv, Int.reduceDiv, Int.reduceMod, Int.reduceAdd, Int.reduceSub, Int.reduceMul, Int.reduceNeg, Int.reducePow, Int.reduceEq, ↓reduceIte, Nat.reduceEqDiff, Nat.reduceAdd, Nat.reduceMul, Nat.reduceLeDiff, Nat.reduceSub, Nat.reduceLT, Int.reduceToNat, Int.reduceLT, Int.reduceLE, reduceCtorEq]
        repeat' ((first | refine FK_split (fun h_ => ?_) (fun h_ => ?_) | refine GK_split (fun h_ => ?_) (fun h_ => ?_) | refine ite_both (fun h_ => ?_) (fun h_ => ?_)) <;> (try simp only [decide_eq_true_eq, decide_eq_false_iff_not, Bool.not_true, Bool.not_false, Bool.not_eq_true', Bool.not_eq_false', Bool.not_eq_eq_eq_not, Decidable.not_not] at h_) <;> (try simp only [r16_0, r16_1, r16_2, r16_3, r16_4, r16_5, r16_7, r16_8, r16_6, r16_9, c16, F16, l16_0, q5, q4, c2, c3, c5, c6, c7, c8, hrd, hrd', vl, hlg, Int.toNat_natCast, h_, go_sem, Int.reduceTMod, Int.reduceTDiv, Int.reduceDiv, Int.reduceMod, Int.reduceAdd, Int.reduceSub, Int.reduceMul, Int.reduceNeg, Int.reducePow, Int.reduceEq, ↓reduceIte, Nat.reduceEqDiff, Nat.reduceAdd, Nat.reduceMul, Nat.reduceLeDiff, Nat.reduceSub, Nat.reduceLT, Int.reduceToNat, Int.reduceLT, Int.reduceLE, reduceCtorEq]))
        refine next _ ⟨?_, ?_, ?_, ?_, ?_, ?_⟩
        · simp only [go_sem, Int.reduceTMod, Int.reduceTDiv, Int.reduceDiv, Int.reduceMod, Int.reduceAdd, Int.reduceSub, Int.reduceMul, Int.reduceNeg, Int.reducePow, Int.reduceEq, ↓reduceIte, Nat.reduceEqDiff, Nat.reduceAdd, Nat.reduceMul, Nat.reduceLeDiff, Nat.reduceSub, Nat.reduceLT, Int.reduceToNat, Int.reduceLT, Int.reduceLE, reduceCtorEq]
        · simp only [q4, hr1, go_sem, Int.reduceTMod, Int.reduceTDiv, Int.reduceDiv, Int.reduceMod, Int.reduceAdd, Int.reduceSub, Int.reduceMul, Int.reduceNeg, Int.reducePow, Int.reduceEq, ↓reduceIte, Nat.reduceEqDiff, Nat.reduceAdd, Nat.reduceMul, Nat.reduceLeDiff, Nat.reduceSub, Nat.reduceLT, Int.reduceToNat, Int.reduceLT, Int.reduceLE, reduceCtorEq]
        · rfl
        · rfl
        · omega
        · rw [hs, hlg]
      · skip
        try simp only [r16_0, r16_1, r16_2, r16_3, r16_4, r16_5, r16_7, r16_8, r16_6, r16_9, c16, F16, l16_0, q5, q4, c2, c3, c5, c6, c7, c8, hrd, hrd', vl, hlg, Int.toNat_natCast, go_sem, Int.reduceTMod, Int.reduceTDiv, Int.reduceDiv, Int.reduceMod, Int.reduceAdd, Int.reduceSub, Int.reduceMul, Int.reduceNeg, Int.reducePow, Int.reduceEq, ↓reduceIte, Nat.reduceEqDiff, Nat.reduceAdd, Nat.reduceMul, Nat.reduceLeDiff, Nat.reduceSub, Nat.reduceLT, Int.reduceToNat, Int.reduceLT, Int.reduceLE, reduceCtorEq]
        repeat' ((first | refine FK_split (fun h_ => ?_) (fun h_ => ?_) | refine GK_split (fun h_ => ?_) (fun h_ => ?_) | refine ite_both (fun h_ => ?_) (fun h_ => ?_)) <;> (try simp only [decide_eq_true_eq, decide_eq_false_iff_not, Bool.not_true, Bool.not_false, Bool.not_eq_true', Bool.not_eq_false', Bool.not_eq_eq_eq_not, Decidable.not_not] at h_) <;> (try simp only [r16_0, r16_1, r16_2, r16_3, r16_4, r16_5, r16_7, r16_8, r16_6, r16_9, c16, F16, l16_0, q5, q4, c2, c3, c5, c6, c7, c8, hrd, hrd', vl, hlg, Int.toNat_natCast, h_, go_sem, Int.reduceTMod, Int.reduceTDiv, Int.reduceDiv, Int.reduceMod, Int.reduceAdd, Int.reduceSub, Int.reduceMul, Int.reduceNeg, Int.reducePow, Int.reduceEq, ↓reduceIte, Nat.reduceEqDiff, Nat.reduceAdd, Nat.reduceMul, Nat.reduceLeDiff, Nat.reduceSub, Nat.reduceLT, Int.reduceToNat, Int.reduceLT, Int.reduceLE, reduceCtorEq]))
        refine hret (anyLg_mono (by rw [hs, hlg]) _ (by omega)) _ ?_ ?_ rfl rfl
        · simp only [go_sem, Int.reduceTMod, Int.reduceTDiv, Int.reduceDiv, Int.reduceMod, Int.reduceAdd, Int.reduceSub, Int.reduceMul, Int.reduceNeg, Int.reducePow, Int.reduceEq, ↓reduceIte, Nat.reduceEqDiff, Nat.reduceAdd, Nat.reduceMul, Nat.reduceLeDiff, Nat.reduceSub, Nat.reduceLT, Int.reduceToNat, Int.reduceLT, Int.reduceLE, reduceCtorEq]
        · simp only [go_sem, Int.reduceTMod, Int.reduceTDiv, Int.reduceDiv, Int.reduceMod, Int.reduceAdd, Int.reduceSub, Int.reduceMul, Int.reduceNeg, Int.reducePow, Int.reduceEq, ↓reduceIte, Nat.reduceEqDiff, Nat.reduceAdd, Nat.reduceMul, Nat.reduceLeDiff, Nat.reduceSub, Nat.reduceLT, Int.reduceToNat, Int.reduceLT, Int.reduceLE, reduceCtorEq]
    · obtain ⟨e', M', N'⟩ := s
      obtain ⟨q5, q4, qm, qn, q1, qa⟩ := hs
      simp only at q5 q4 qm qn q1 qa
      have c2 : ((w.length : Int) < (w.length : Int)) = False := eq_false (by omega)
      try simp only [r16_0, r16_1, r16_2, r16_3, r16_4, r16_5, r16_7, r16_8, r16_6, r16_9, c16, F16, l16_0, q5, q4, c2, hlen, go_sem, Int.reduceTMod, Int.reduceTDiv, Int.reduceDiv, Int.reduceMod, Int.reduceAdd, Int.reduceSub, Int.reduceMul, Int.reduceNeg, Int.reducePow, Int.reduceEq, ↓reduceIte, Nat.reduceEqDiff, Nat.reduceAdd, Nat.reduceMul, Nat.reduceLeDiff, Nat.reduceSub, Nat.reduceLT, Int.reduceToNat, Int.reduceLT, Int.reduceLE, reduceCtorEq]
      repeat' ((first | refine FK_split (fun h_ => ?_) (fun h_ => ?_) | refine GK_split (fun h_ => ?_) (fun h_ => ?_) | refine ite_both (fun h_ => ?_) (fun h_ => ?_)) <;> (try simp only [decide_eq_true_eq, decide_eq_false_iff_not, Bool.not_true, Bool.not_false, Bool.not_eq_true', Bool.not_eq_false', Bool.not_eq_eq_eq_not, Decidable.not_not] at h_) <;> (try simp only [r16_0, r16_1, r16_2, r16_3, r16_4, r16_5, r16_7, r16_8, r16_6, r16_9, c16, F16, l16_0, q5, q4, c2, hlen, h_, go_sem, Int.reduceTMod, Int.reduceTDiv, Int.reduceDiv, Int.reduceMod, Int.reduceAdd, Int.reduceSub, Int.reduceMul, Int.reduceNeg, Int.reducePow, Int.reduceEq, ↓reduceIte, Nat.reduceEqDiff, Nat.reduceAdd, Nat.reduceMul, Nat.reduceLeDiff, Nat.reduceSub, Nat.reduceLT, Int.reduceToNat, Int.reduceLT, Int.reduceLE, reduceCtorEq]))
      exact hx qa _ (by simp only [q4, go_sem, Int.reduceTMod, Int.reduceTDiv, Int.reduceDiv, Int.reduceMod, Int.reduceAdd, Int.reduceSub, Int.reduceMul, Int.reduceNeg, Int.reducePow, Int.reduceEq, ↓reduceIte, Nat.reduceEqDiff, Nat.reduceAdd, Nat.reduceMul, Nat.reduceLeDiff, Nat.reduceSub, Nat.reduceLT, Int.reduceToNat, Int.reduceLT, Int.reduceLE, reduceCtorEq]) qm qn

end Go.Proofs.Ytoakdmjpbachdaa.Sy
