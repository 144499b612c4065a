import Derived.Test.YtkdbnmohpanpfaaMgG
import Derived.ProofKit
import Derived.OpenShut
import Derived.Deep.Slices
import Derived.Shelf.SlGeneric
import Derived.Shelf.SlSortCmp.WholeK
import Derived.Shelf.SlSortCmp.NoneTotal
import Derived.Shelf.SlicesG.Cmp
import Derived.Test.YtkdbnmohpanpfaaProg
/- A row of samples counted into a mask, walked. Conditions: those that each theorem names. -/
namespace Go.Proofs.Ytkdbnmohpanpfaa.Sy
open Go Go.Proofs
set_option linter.unusedSimpArgs false
set_option linter.unusedVariables false
set_option maxRecDepth 20000
attribute [local go_sem] XK_seq XK_block XK_skip XK_exit XK_ret XK_cond XK_reg XK_dreg XK_ureg KN_seq KN_blk KN_lp KN_chk KN_chku KN_top KN_fin KX_seq KX_lp KX_blk KX_chk KX_top KR_seq KR_blk KR_lp KR_chk KR_top KR_fin FK_true FK_false RK_nil RK_mv RK_pick RK_alloc RK_box RK_build RK_bslice RK_load1 RK_loadA RK_store RK_nilchk RK_bin RK_beq RK_eqv RK_eqnil RK_un RK_conv RK_mkfn RK_mkslice RK_slS RK_slA RK_fadr RK_fld RK_iadrA RK_iadrS RK_idxA RK_istr RK_ext RK_lenC RK_cap RK_app RK_appz RK_pre RK_cpy RK_mn RK_mx RK_len RK_carry RK_clr carryR um0 um1 ThenK_some RK_guard GK_tt GK_ff GK_tf GK_ft GK_none QK_some RK_callQ RK_callZ RK_callT TK_some VK_clo RK_callV
  evalOp evO evOs upd_at unfrz_at putE_some putE_none boolOf_b boolOf_tup Option.map_some evRes pack_one pack_two pack_three pack_none List.getD_cons_zero List.getD_cons_succ getD_nil
  Option.some.injEq exists_eq_left' Reg.cs? fillC setL List.set_cons_zero List.set_cons_succ List.length_cons List.length_nil rd_upd rd_updn rdB wr List.drop_zero List.drop_succ_cons List.take_succ_cons List.take_zero List.getElem?_cons_zero List.getElem?_cons_succ
  ix Int.toNat_zero lenO_sl lenO_nil nadd na_eq na_eq' na_lt na_ee na_ll na_ne na_ne' na_tt
attribute [local go_sem] Reg.flat_one Reg.flat_agg Reg.flat_tup flats_nil flats_cons Cell.flat_sc Cell.flat_ptr List.all_cons List.all_nil disOk safeOk safeR decide_eq_true_eq decide_eq_false_iff_not
  List.map_cons List.map_nil List.cons_append List.nil_append List.append_nil evalOp.capsOf Bool.false_bne Bool.bne_false Bool.true_bne Bool.bne_true bne_self_eq_false beq_self_eq_true Bool.not_not Bool.false_and Bool.and_false Bool.true_or Bool.or_true beq_iff_eq eqCells
  Bool.true_beq Bool.false_beq Bool.not_eq_true' Bool.not_eq_eq_eq_not Bool.not_eq_false' and_false false_and frz_at idOf noId Option.isSome_some Bool.and_eq_true
attribute [local go_sem] wr_eq bV_add bV_sub bV_mul bV_eql bV_neq bV_lss bV_leq bV_gtr bV_geq bV_quo bV_rem bV_shr bV_shl uV_not uV_neg wrapU bits_and bits_or bits_xor IntKind.bits Nat.min_eq_left Nat.min_eq_right Nat.min_self
attribute [local go_sem] bne_iff_ne Int.cast_ofNat_Int Nat.zero_add Nat.add_zero and_self and_true true_and ne_eq not_false_eq_true not_true_eq_false decide_true decide_false Bool.false_eq_true Bool.not_true Bool.not_false Bool.true_and Bool.and_true Bool.or_false Bool.false_or Bool.and_self

/-- What is left of a row of crossings. -/
def DX (base : Nat) (m : Mem) (n : Nat) (r : Reg) (l : List XC) : Prop :=
  (r = rnil ∧ l = []) ∨ ∃ id off, r = .one (.sl id off l.length none 2) ∧ base ≤ id ∧ id < n ∧ rd m id off (l.length * 2) = some (l.flatMap encX)
theorem DX.keep {base n n' : Nat} {m m' : Mem} {r : Reg} {l : List XC} (h : DX base m n r l) (hn : n ≤ n') (hm : ∀ id, base ≤ id → id < n → m' id = m id) : DX base m' n' r l := by
  rcases h with h | ⟨id, off, h1, h2, h3, h4⟩
  · exact Or.inl h
  · exact Or.inr ⟨id, off, h1, h2, by omega, by rw [rd_same (hm id h2 h3)]; exact h4⟩
theorem DX.of {base n : Nat} {m : Mem} {r : Reg} {l : List XC} (h : OL encX 2 base m n r l) : DX base m n r l := by
  rcases h with h | ⟨id, rfl, h2, h3, h4⟩
  · exact Or.inl h
  · refine Or.inr ⟨id, 0, rfl, h2, h3, ?_⟩
    have hl := flatMap_len encX 2 ce2 l
    rw [rd_of h4]
    unfold rdB
    rw [if_pos (by rw [hl]; omega), List.drop_zero, ← hl, List.take_length]
theorem DX.len {base n : Nat} {m : Mem} {r : Reg} {l : List XC} (h : DX base m n r l) : lenO r = some (l.length : Int) := by
  rcases h with ⟨rfl, rfl⟩ | ⟨id, off, rfl, _⟩ <;> rfl
theorem DX.head {base n : Nat} {m : Mem} {r : Reg} {c : XC} {l : List XC} (h : DX base m n r (c :: l)) :
    ∃ id off b, r = .one (.sl id off (l.length + 1) none 2) ∧ base ≤ id ∧ id < n ∧ m id = some b ∧ b.cells[off]? = some (I c.1) ∧ b.cells[off + 1]? = some (I c.2) ∧ DX base m n (.one (.sl id (off + 2) l.length none 2)) l := by
  rcases h with ⟨_, h⟩ | ⟨id, off, h1, h2, h3, h4⟩
  · cases h
  · have hr := rd_at ce2 h4 (i := 0) (x := c) rfl
    rw [Nat.zero_mul, Nat.add_zero] at hr
    obtain ⟨b, k1, k2⟩ := rd_cell hr (a := 0) (c := I c.1) rfl
    obtain ⟨b', k3, k4⟩ := rd_cell hr (a := 1) (c := I c.2) rfl
    rw [k1] at k3
    cases k3
    refine ⟨id, off, b, h1, h2, h3, k1, k2, k4, Or.inr ⟨id, off + 2, rfl, h2, h3, ?_⟩⟩
    rw [rd_of k1] at h4 ⊢
    unfold rdB at h4 ⊢
    have hl := flatMap_len encX 2 ce2 l
    simp only [List.length_cons, List.flatMap_cons] at h4
    split at h4
    case isFalse => cases h4
    rename_i hle
    rw [if_pos (by omega)]
    simp only [Option.some.injEq] at h4 ⊢
    have := congrArg (List.drop 2) h4
    rw [List.drop_take, List.drop_drop, show (l.length + 1) * 2 - 2 = l.length * 2 by omega] at this
    rw [this]
    rfl

abbrev frA (t : Nat) : Prop := t < 12 ∨ (13 < t ∧ t < 100) ∨ 118 < t
/-- The crossings that are left of x go. -/
theorem drop_loop {K : Kt} {C : List XC} {x : Int} {base N : Nat} {M : Mem} {e0 : Nat → Reg} (hs : C.Pairwise (fun a b => a.1 ≤ b.1)) (hl : C.length ≤ 1200) (hby : ∀ c ∈ C, -1 ≤ c.2 ∧ c.2 ≤ 1) (h18 : e0 18 = RI x)
    (hend : ∀ (e : Nat → Reg) (k : Nat), k ≤ C.length → DX base M N (e 12) (C.drop k) → e 13 = RI (gtS x C) → byS (C.drop k) = gtS x C → (∀ c ∈ C.take k, c.1 ≤ x) → (∀ t, frA t → e t = e0 t) → KX TA K 6 ⟨e, M, N⟩)
    (k : Nat) (hk : k ≤ C.length) (h12 : DX base M N (e0 12) (C.drop k)) (h13 : e0 13 = RI (byS (C.drop k))) (htk : ∀ c ∈ C.take k, c.1 ≤ x) : XK TA (.loop l12_1) ⟨e0, M, N⟩ K := by
  refine XK_down (inv := fun d s => s.n = N ∧ s.m = M ∧ ∃ k, k ≤ C.length ∧ d = C.length - k ∧ DX base M N (s.e 12) (C.drop k) ∧ s.e 13 = RI (byS (C.drop k)) ∧ (∀ c ∈ C.take k, c.1 ≤ x) ∧ (∀ t, frA t → s.e t = e0 t))
    (fun L _ d s hd next => ?_) (C.length - k) _ ⟨rfl, rfl, k, hk, rfl, h12, h13, htk, fun _ _ => rfl⟩
  clear hk h12 h13 htk
  obtain ⟨e, M', N'⟩ := s
  obtain ⟨rfl, rfl, k, hk, hdk, q12, q13, qt, qf⟩ := hd
  simp only at q12 q13 qf
  have q18 := (qf 18 (by omega)).trans h18
  cases hC : C.drop k with
  | nil =>
    have hg : byS (C.drop k) = gtS x C := drop_eq hs k qt (fun c hc => by
      have := congrArg (·[0]?) hC
      simp only [List.getElem?_drop, Nat.add_zero, hc] at this
      cases this)
    have hlen := q12.len
    rw [hC] at hlen
    rw [hg] at q13
    try simp only [r12_0, r12_1, r12_2, r12_3, r12_4, r12_5, r12_6, r12_7, r12_8, r12_9, r12_10, r12_11, r12_12, r12_13, r12_14, r12_15, r12_16, r12_17, r12_18, r12_19, r12_20, r12_21, r12_22, r12_23, r12_24, r12_25, r12_26, r12_27, r12_28, c12, F12, l12_1, hlen, q18, go_sem, Int.reduceTMod, Int.reduceTDiv, Int.reduceDiv, Int.reduceMod, Int.reduceAdd, Int.reduceSub, Int.reduceMul, Int.reduceNeg, Int.reducePow, Int.reduceEq, ↓reduceIte, Nat.reduceEqDiff, Nat.reduceAdd, Nat.reduceMul, Nat.reduceLeDiff, Nat.reduceSub, Nat.reduceLT, Int.reduceToNat, Int.reduceLT, Int.reduceLE, reduceCtorEq]
    repeat' ((first | refine FK_split (fun h_ => ?_) (fun h_ => ?_) | refine GK_split (fun h_ => ?_) (fun h_ => ?_) | refine ite_both (fun h_ => ?_) (fun h_ => ?_)) <;> (try simp only [decide_eq_true_eq, decide_eq_false_iff_not, Bool.not_true, Bool.not_false, Bool.not_eq_true', Bool.not_eq_false', Bool.not_eq_eq_eq_not, Decidable.not_not] at h_) <;> (try simp only [r12_0, r12_1, r12_2, r12_3, r12_4, r12_5, r12_6, r12_7, r12_8, r12_9, r12_10, r12_11, r12_12, r12_13, r12_14, r12_15, r12_16, r12_17, r12_18, r12_19, r12_20, r12_21, r12_22, r12_23, r12_24, r12_25, r12_26, r12_27, r12_28, c12, F12, l12_1, hlen, q18, h_, go_sem, Int.reduceTMod, Int.reduceTDiv, Int.reduceDiv, Int.reduceMod, Int.reduceAdd, Int.reduceSub, Int.reduceMul, Int.reduceNeg, Int.reducePow, Int.reduceEq, ↓reduceIte, Nat.reduceEqDiff, Nat.reduceAdd, Nat.reduceMul, Nat.reduceLeDiff, Nat.reduceSub, Nat.reduceLT, Int.reduceToNat, Int.reduceLT, Int.reduceLE, reduceCtorEq]))
    refine hend _ k hk ?_ ?_ hg qt (fun t ht => ?_)
    · exact q12
    · exact q13
    · repeat rw [upd_ne _ _ (by omega)]
      exact qf t ht
  | cons c l =>
    have hlt : k < C.length := by
      rcases Nat.lt_or_ge k C.length with h | h
      · exact h
      · rw [List.drop_eq_nil_of_le h] at hC; cases hC
    have hck : C[k]? = some c := by
      have := congrArg (·[0]?) hC
      simpa using this
    have hl1 : l = C.drop (k + 1) := by
      rw [← List.drop_drop, hC]; rfl
    have hll : l.length = C.length - (k + 1) := by rw [hl1, List.length_drop]
    have q12' := q12
    rw [hC] at q12'
    obtain ⟨id, off, b, e1, hb1, hid, hb, hc1, hc2, hrest⟩ := q12'.head
    have g1 : (0 < ((l.length + 1 : Nat) : Int)) = True := eq_true (by omega)
    by_cases hx : c.1 ≤ x
    · have hby' := byS_bd (C := C.drop k) (fun d hd => hby d (List.mem_of_mem_drop hd))
      rw [List.length_drop] at hby'
      have hcb := hby c (List.mem_of_getElem? hck)
      have hb0 : byS (C.drop k) = c.2 + byS l := by rw [hC]; rfl
      have hw : IntKind.i64.wrap (byS (C.drop k) - c.2) = byS l := (wr_eq (by omega) (by omega)).trans (by omega)
      have hb9 : bnds (l.length + 1) none (some (RI 1)) none none = some (1, l.length + 1, none) := by
        have h1 : (1 : Int) ≤ (l.length : Int) + 1 := by omega
        simp [bnds, bMax, bHigh, bLow, inR, ix, h1]
      try simp only [r12_0, r12_1, r12_2, r12_3, r12_4, r12_5, r12_6, r12_7, r12_8, r12_9, r12_10, r12_11, r12_12, r12_13, r12_14, r12_15, r12_16, r12_17, r12_18, r12_19, r12_20, r12_21, r12_22, r12_23, r12_24, r12_25, r12_26, r12_27, r12_28, c12, F12, l12_1, e1, q13, q18, g1, hx, hb, hc1, hc2, hw, hb9, Option.map_none, Nat.add_sub_cancel, go_sem, Int.reduceTMod, Int.reduceTDiv, Int.reduceDiv, Int.reduceMod, Int.reduceAdd, Int.reduceSub, Int.reduceMul, Int.reduceNeg, Int.reducePow, Int.reduceEq, ↓reduceIte, Nat.reduceEqDiff, Nat.reduceAdd, Nat.reduceMul, Nat.reduceLeDiff, Nat.reduceSub, Nat.reduceLT, Int.reduceToNat, Int.reduceLT, Int.reduceLE, reduceCtorEq]
      repeat' ((first | refine FK_split (fun h_ => ?_) (fun h_ => ?_) | refine GK_split (fun h_ => ?_) (fun h_ => ?_) | refine ite_both (fun h_ => ?_) (fun h_ => ?_)) <;> (try simp only [decide_eq_true_eq, decide_eq_false_iff_not, Bool.not_true, Bool.not_false, Bool.not_eq_true', Bool.not_eq_false', Bool.not_eq_eq_eq_not, Decidable.not_not] at h_) <;> (try simp only [r12_0, r12_1, r12_2, r12_3, r12_4, r12_5, r12_6, r12_7, r12_8, r12_9, r12_10, r12_11, r12_12, r12_13, r12_14, r12_15, r12_16, r12_17, r12_18, r12_19, r12_20, r12_21, r12_22, r12_23, r12_24, r12_25, r12_26, r12_27, r12_28, c12, F12, l12_1, e1, q13, q18, g1, hx, hb, hc1, hc2, hw, hb9, Option.map_none, Nat.add_sub_cancel, h_, go_sem, Int.reduceTMod, Int.reduceTDiv, Int.reduceDiv, Int.reduceMod, Int.reduceAdd, Int.reduceSub, Int.reduceMul, Int.reduceNeg, Int.reducePow, Int.reduceEq, ↓reduceIte, Nat.reduceEqDiff, Nat.reduceAdd, Nat.reduceMul, Nat.reduceLeDiff, Nat.reduceSub, Nat.reduceLT, Int.reduceToNat, Int.reduceLT, Int.reduceLE, reduceCtorEq]))
      refine next (C.length - (k + 1)) _ (by omega) ⟨rfl, rfl, k + 1, hlt, rfl, ?_, ?_, fun d hd => ?_, fun t ht => ?_⟩
      · rw [← hl1]
        exact hrest
      · rw [← hl1]
        rfl
      · rw [take_snoc hck, List.mem_append] at hd
        rcases hd with hd | hd
        · exact qt d hd
        · simp at hd
          subst hd
          exact hx
      · simp only
        repeat rw [upd_ne _ _ (by omega)]
        exact qf t ht
    · have hg : byS (C.drop k) = gtS x C := drop_eq hs k qt (fun d hd => by rw [hck] at hd; cases hd; omega)
      rw [hg] at q13
      try simp only [r12_0, r12_1, r12_2, r12_3, r12_4, r12_5, r12_6, r12_7, r12_8, r12_9, r12_10, r12_11, r12_12, r12_13, r12_14, r12_15, r12_16, r12_17, r12_18, r12_19, r12_20, r12_21, r12_22, r12_23, r12_24, r12_25, r12_26, r12_27, r12_28, c12, F12, l12_1, e1, q18, g1, hx, hb, hc1, hc2, go_sem, Int.reduceTMod, Int.reduceTDiv, Int.reduceDiv, Int.reduceMod, Int.reduceAdd, Int.reduceSub, Int.reduceMul, Int.reduceNeg, Int.reducePow, Int.reduceEq, ↓reduceIte, Nat.reduceEqDiff, Nat.reduceAdd, Nat.reduceMul, Nat.reduceLeDiff, Nat.reduceSub, Nat.reduceLT, Int.reduceToNat, Int.reduceLT, Int.reduceLE, reduceCtorEq]
      repeat' ((first | refine FK_split (fun h_ => ?_) (fun h_ => ?_) | refine GK_split (fun h_ => ?_) (fun h_ => ?_) | refine ite_both (fun h_ => ?_) (fun h_ => ?_)) <;> (try simp only [decide_eq_true_eq, decide_eq_false_iff_not, Bool.not_true, Bool.not_false, Bool.not_eq_true', Bool.not_eq_false', Bool.not_eq_eq_eq_not, Decidable.not_not] at h_) <;> (try simp only [r12_0, r12_1, r12_2, r12_3, r12_4, r12_5, r12_6, r12_7, r12_8, r12_9, r12_10, r12_11, r12_12, r12_13, r12_14, r12_15, r12_16, r12_17, r12_18, r12_19, r12_20, r12_21, r12_22, r12_23, r12_24, r12_25, r12_26, r12_27, r12_28, c12, F12, l12_1, e1, q18, g1, hx, hb, hc1, hc2, h_, go_sem, Int.reduceTMod, Int.reduceTDiv, Int.reduceDiv, Int.reduceMod, Int.reduceAdd, Int.reduceSub, Int.reduceMul, Int.reduceNeg, Int.reducePow, Int.reduceEq, ↓reduceIte, Nat.reduceEqDiff, Nat.reduceAdd, Nat.reduceMul, Nat.reduceLeDiff, Nat.reduceSub, Nat.reduceLT, Int.reduceToNat, Int.reduceLT, Int.reduceLE, reduceCtorEq]))
      refine hend _ k hk ?_ ?_ hg qt (fun t ht => ?_)
      · exact q12
      · exact q13
      · repeat rw [upd_ne _ _ (by omega)]
        exact qf t ht

abbrev frB (t : Nat) : Prop := t < 12 ∨ t = 16 ∨ (18 < t ∧ t < 90)
theorem tdiv4 (i : Nat) : (i : Int).tdiv 4 = ((i / 4 : Nat) : Int) := (Int.ofNat_tdiv i 4).symm
/-- A row of samples. -/
theorem col_loop {K : Kt} {C : List XC} {x0 rule : Int} {W NN o base N nb j : Nat} {M : Mem} {e0 : Nat → Reg} {ins : Nat → Nat → Bool} {g : Nat → Int} {cap : Option Nat} {b5 : Blk} (hs : C.Pairwise (fun a b => a.1 ≤ b.1)) (hl : C.length ≤ 1200) (hby : ∀ c ∈ C, -1 ≤ c.2 ∧ c.2 ≤ 1)
    (hW : W ≤ 256) (hx : -4194304 ≤ x0 ∧ x0 ≤ 4194304) (hins : ∀ i : Nat, i < 4 * W → ins j i = inV rule (gtS (x0 * 256 + 32 + i * 64) C)) (hrow : j / 4 * W + W ≤ NN) (hNN : NN ≤ 65536)
    (h1 : e0 1 = RI rule) (h5 : e0 5 = .one (.ptr nb 0)) (h16 : e0 16 = .one (.sl o (j / 4 * W) W cap 1)) (h89 : e0 89 = RI ((4 * W : Nat) : Int)) (hM5 : M nb = some b5) (hb5 : b5.cells[0]? = some (I x0)) (ho : o < base) (hon : nb ≠ o) (h90 : e0 90 = RI 0)
    (hMo : M o = some ⟨maskC g NN, true⟩) (h12 : DX base M N (e0 12) C) (h13 : e0 13 = RI (byS C))
    (hend : ∀ (e : Nat → Reg) (M' : Mem), (∀ id, id ≠ o → M' id = M id) → M' o = some ⟨maskC (fun c => g c + cI ins W j (4 * W) c) NN, true⟩ → (∀ t, frB t → e t = e0 t) → KX TA K 4 ⟨e, M', N⟩) :
    XK TA (.loop l12_2) ⟨e0, M, N⟩ K := by
  refine XK_iter (inv := fun i s => s.n = N ∧ s.e 90 = RI i ∧ (∀ id, id ≠ o → s.m id = M id) ∧ s.m o = some ⟨maskC (fun c => g c + cI ins W j i c) NN, true⟩ ∧ (∀ t, frB t → s.e t = e0 t) ∧
      ∃ k, k ≤ C.length ∧ DX base s.m N (s.e 12) (C.drop k) ∧ s.e 13 = RI (byS (C.drop k)) ∧ (∀ c ∈ C.take k, c.1 ≤ x0 * 256 + 32 + i * 64)) (4 * W)
    (fun L _ => ⟨fun i hi s hs' next => ?_, fun s hs' => ?_⟩) 0 (by omega) _ ⟨rfl, h90, fun _ _ => rfl, ?_, fun _ _ => rfl, 0, by omega, h12, h13, fun c hc => by simp at hc⟩
  · obtain ⟨e, M', N'⟩ := s
    obtain ⟨rfl, q90, qM, qo, qf, k, hk, q12, q13, qt⟩ := hs'
    simp only at q90 qM qo qf q12 q13
    have q1 := (qf 1 (by omega)).trans h1
    have q5 := (qf 5 (by omega)).trans h5
    have q16 := (qf 16 (by omega)).trans h16
    have q89 := (qf 89 (by omega)).trans h89
    have hM5' := (qM nb hon).trans hM5
    have c2 : ((i : Int) < ((4 * W : Nat) : Int)) = True := eq_true (by omega)
    have w1 : IntKind.i64.wrap (x0 * 256) = x0 * 256 := wr_eq (by omega) (by omega)
    have w2 : IntKind.i64.wrap (x0 * 256 + 32) = x0 * 256 + 32 := wr_eq (by omega) (by omega)
    have w3 : IntKind.i64.wrap ((i : Int) * 64) = (i : Int) * 64 := wr_eq (by omega) (by omega)
    have w5 : IntKind.i64.wrap ((i : Int) + 1) = ((i + 1 : Nat) : Int) := wr_nat (by omega)
    have hii := hins i hi
    obtain ⟨x, hxx⟩ : ∃ x, x = x0 * 256 + 32 + (i : Int) * 64 := ⟨_, rfl⟩
    have w4 : IntKind.i64.wrap (x0 * 256 + 32 + (i : Int) * 64) = x := (wr_eq (by omega) (by omega)).trans hxx.symm
    rw [← hxx] at qt hii
    try simp only [r12_0, r12_1, r12_2, r12_3, r12_4, r12_5, r12_6, r12_7, r12_8, r12_9, r12_10, r12_11, r12_12, r12_13, r12_14, r12_15, r12_16, r12_17, r12_18, r12_19, r12_20, r12_21, r12_22, r12_23, r12_24, r12_25, r12_26, r12_27, r12_28, c12, F12, l12_2, q90, q89, q5, c2, hM5', hb5, w1, w2, w3, w4, go_sem, Int.reduceTMod, Int.reduceTDiv, Int.reduceDiv, Int.reduceMod, Int.reduceAdd, Int.reduceSub, Int.reduceMul, Int.reduceNeg, Int.reducePow, Int.reduceEq, ↓reduceIte, Nat.reduceEqDiff, Nat.reduceAdd, Nat.reduceMul, Nat.reduceLeDiff, Nat.reduceSub, Nat.reduceLT, Int.reduceToNat, Int.reduceLT, Int.reduceLE, reduceCtorEq]
    repeat' ((first | refine FK_split (fun h_ => ?_) (fun h_ => ?_) | refine GK_split (fun h_ => ?_) (fun h_ => ?_) | refine ite_both (fun h_ => ?_) (fun h_ => ?_)) <;> (try simp only [decide_eq_true_eq, decide_eq_false_iff_not, Bool.not_true, Bool.not_false, Bool.not_eq_true', Bool.not_eq_false', Bool.not_eq_eq_eq_not, Decidable.not_not] at h_) <;> (try simp only [r12_0, r12_1, r12_2, r12_3, r12_4, r12_5, r12_6, r12_7, r12_8, r12_9, r12_10, r12_11, r12_12, r12_13, r12_14, r12_15, r12_16, r12_17, r12_18, r12_19, r12_20, r12_21, r12_22, r12_23, r12_24, r12_25, r12_26, r12_27, r12_28, c12, F12, l12_2, q90, q89, q5, c2, hM5', hb5, w1, w2, w3, w4, h_, go_sem, Int.reduceTMod, Int.reduceTDiv, Int.reduceDiv, Int.reduceMod, Int.reduceAdd, Int.reduceSub, Int.reduceMul, Int.reduceNeg, Int.reducePow, Int.reduceEq, ↓reduceIte, Nat.reduceEqDiff, Nat.reduceAdd, Nat.reduceMul, Nat.reduceLeDiff, Nat.reduceSub, Nat.reduceLT, Int.reduceToNat, Int.reduceLT, Int.reduceLE, reduceCtorEq]))
    refine drop_loop (x := x) (base := base) (C := C) hs hl hby (by simp only [go_sem, Int.reduceTMod, Int.reduceTDiv, Int.reduceDiv, Int.reduceMod, Int.reduceAdd, Int.reduceSub, Int.reduceMul, Int.reduceNeg, Int.reducePow, Int.reduceEq, ↓reduceIte, Nat.reduceEqDiff, Nat.reduceAdd, Nat.reduceMul, Nat.reduceLeDiff, Nat.reduceSub, Nat.reduceLT, Int.reduceToNat, Int.reduceLT, Int.reduceLE, reduceCtorEq]) (fun e' k' hk' d12 d13 dg dt df => ?_) k hk (by simp only [go_sem, Int.reduceTMod, Int.reduceTDiv, Int.reduceDiv, Int.reduceMod, Int.reduceAdd, Int.reduceSub, Int.reduceMul, Int.reduceNeg, Int.reducePow, Int.reduceEq, ↓reduceIte, Nat.reduceEqDiff, Nat.reduceAdd, Nat.reduceMul, Nat.reduceLeDiff, Nat.reduceSub, Nat.reduceLT, Int.reduceToNat, Int.reduceLT, Int.reduceLE, reduceCtorEq]; exact q12) (by simp only [q13, go_sem, Int.reduceTMod, Int.reduceTDiv, Int.reduceDiv, Int.reduceMod, Int.reduceAdd, Int.reduceSub, Int.reduceMul, Int.reduceNeg, Int.reducePow, Int.reduceEq, ↓reduceIte, Nat.reduceEqDiff, Nat.reduceAdd, Nat.reduceMul, Nat.reduceLeDiff, Nat.reduceSub, Nat.reduceLT, Int.reduceToNat, Int.reduceLT, Int.reduceLE, reduceCtorEq]) qt
    have f1 := (df 1 (by omega)).trans (show _ = e 1 by simp only [go_sem, Int.reduceTMod, Int.reduceTDiv, Int.reduceDiv, Int.reduceMod, Int.reduceAdd, Int.reduceSub, Int.reduceMul, Int.reduceNeg, Int.reducePow, Int.reduceEq, ↓reduceIte, Nat.reduceEqDiff, Nat.reduceAdd, Nat.reduceMul, Nat.reduceLeDiff, Nat.reduceSub, Nat.reduceLT, Int.reduceToNat, Int.reduceLT, Int.reduceLE, reduceCtorEq])
    have f16 := (df 16 (by omega)).trans (show _ = e 16 by simp only [go_sem, Int.reduceTMod, Int.reduceTDiv, Int.reduceDiv, Int.reduceMod, Int.reduceAdd, Int.reduceSub, Int.reduceMul, Int.reduceNeg, Int.reducePow, Int.reduceEq, ↓reduceIte, Nat.reduceEqDiff, Nat.reduceAdd, Nat.reduceMul, Nat.reduceLeDiff, Nat.reduceSub, Nat.reduceLT, Int.reduceToNat, Int.reduceLT, Int.reduceLE, reduceCtorEq])
    have f17 := (df 17 (by omega)).trans (show _ = RI i by simp only [go_sem, Int.reduceTMod, Int.reduceTDiv, Int.reduceDiv, Int.reduceMod, Int.reduceAdd, Int.reduceSub, Int.reduceMul, Int.reduceNeg, Int.reducePow, Int.reduceEq, ↓reduceIte, Nat.reduceEqDiff, Nat.reduceAdd, Nat.reduceMul, Nat.reduceLeDiff, Nat.reduceSub, Nat.reduceLT, Int.reduceToNat, Int.reduceLT, Int.reduceLE, reduceCtorEq])
    have f90 := (df 90 (by omega)).trans (show _ = e 90 by simp only [go_sem, Int.reduceTMod, Int.reduceTDiv, Int.reduceDiv, Int.reduceMod, Int.reduceAdd, Int.reduceSub, Int.reduceMul, Int.reduceNeg, Int.reducePow, Int.reduceEq, ↓reduceIte, Nat.reduceEqDiff, Nat.reduceAdd, Nat.reduceMul, Nat.reduceLeDiff, Nat.reduceSub, Nat.reduceLT, Int.reduceToNat, Int.reduceLT, Int.reduceLE, reduceCtorEq])
    have ff : ∀ t, frB t → e' t = e0 t := fun t ht => by
      rw [df t (by omega), ← qf t ht]
      repeat rw [upd_ne _ _ (by omega)]
    rw [q1] at f1
    rw [q16] at f16
    rw [q90] at f90
    have vc := v_cin rule (gtS x C)
    rw [← hii] at vc
    have hnx : ∀ c ∈ C.take k', c.1 ≤ x0 * 256 + 32 + ((i + 1 : Nat) : Int) * 64 := fun c hc => by
      have := dt c hc
      rw [hxx] at this
      omega
    cases hb : ins j i with
    | false =>
      rw [hb] at vc
      try simp only [r12_0, r12_1, r12_2, r12_3, r12_4, r12_5, r12_6, r12_7, r12_8, r12_9, r12_10, r12_11, r12_12, r12_13, r12_14, r12_15, r12_16, r12_17, r12_18, r12_19, r12_20, r12_21, r12_22, r12_23, r12_24, r12_25, r12_26, r12_27, r12_28, c12, F12, f1, d13, vc, f90, w5, go_sem, Int.reduceTMod, Int.reduceTDiv, Int.reduceDiv, Int.reduceMod, Int.reduceAdd, Int.reduceSub, Int.reduceMul, Int.reduceNeg, Int.reducePow, Int.reduceEq, ↓reduceIte, Nat.reduceEqDiff, Nat.reduceAdd, Nat.reduceMul, Nat.reduceLeDiff, Nat.reduceSub, Nat.reduceLT, Int.reduceToNat, Int.reduceLT, Int.reduceLE, reduceCtorEq]
      repeat' ((first | refine FK_split (fun h_ => ?_) (fun h_ => ?_) | refine GK_split (fun h_ => ?_) (fun h_ => ?_) | refine ite_both (fun h_ => ?_) (fun h_ => ?_)) <;> (try simp only [decide_eq_true_eq, decide_eq_false_iff_not, Bool.not_true, Bool.not_false, Bool.not_eq_true', Bool.not_eq_false', Bool.not_eq_eq_eq_not, Decidable.not_not] at h_) <;> (try simp only [r12_0, r12_1, r12_2, r12_3, r12_4, r12_5, r12_6, r12_7, r12_8, r12_9, r12_10, r12_11, r12_12, r12_13, r12_14, r12_15, r12_16, r12_17, r12_18, r12_19, r12_20, r12_21, r12_22, r12_23, r12_24, r12_25, r12_26, r12_27, r12_28, c12, F12, f1, d13, vc, f90, w5, h_, go_sem, Int.reduceTMod, Int.reduceTDiv, Int.reduceDiv, Int.reduceMod, Int.reduceAdd, Int.reduceSub, Int.reduceMul, Int.reduceNeg, Int.reducePow, Int.reduceEq, ↓reduceIte, Nat.reduceEqDiff, Nat.reduceAdd, Nat.reduceMul, Nat.reduceLeDiff, Nat.reduceSub, Nat.reduceLT, Int.reduceToNat, Int.reduceLT, Int.reduceLE, reduceCtorEq]))
      refine next _ ⟨rfl, ?_, qM, ?_, fun t ht => ?_, k', hk', ?_, ?_, hnx⟩
      · simp only [go_sem, Int.reduceTMod, Int.reduceTDiv, Int.reduceDiv, Int.reduceMod, Int.reduceAdd, Int.reduceSub, Int.reduceMul, Int.reduceNeg, Int.reducePow, Int.reduceEq, ↓reduceIte, Nat.reduceEqDiff, Nat.reduceAdd, Nat.reduceMul, Nat.reduceLeDiff, Nat.reduceSub, Nat.reduceLT, Int.reduceToNat, Int.reduceLT, Int.reduceLE, reduceCtorEq]
      · refine qo.trans ?_
        simp only [Option.some.injEq, Blk.mk.injEq, and_true]
        refine maskC_congr fun c hc => ?_
        rw [cI, if_neg (fun h => by rw [hb] at h; cases h.1), Int.add_zero]
      · simp only
        repeat rw [upd_ne _ _ (by omega)]
        exact ff t ht
      · simp only [go_sem, Int.reduceTMod, Int.reduceTDiv, Int.reduceDiv, Int.reduceMod, Int.reduceAdd, Int.reduceSub, Int.reduceMul, Int.reduceNeg, Int.reducePow, Int.reduceEq, ↓reduceIte, Nat.reduceEqDiff, Nat.reduceAdd, Nat.reduceMul, Nat.reduceLeDiff, Nat.reduceSub, Nat.reduceLT, Int.reduceToNat, Int.reduceLT, Int.reduceLE, reduceCtorEq]
        exact d12
      · simp only [d13, dg, go_sem, Int.reduceTMod, Int.reduceTDiv, Int.reduceDiv, Int.reduceMod, Int.reduceAdd, Int.reduceSub, Int.reduceMul, Int.reduceNeg, Int.reducePow, Int.reduceEq, ↓reduceIte, Nat.reduceEqDiff, Nat.reduceAdd, Nat.reduceMul, Nat.reduceLeDiff, Nat.reduceSub, Nat.reduceLT, Int.reduceToNat, Int.reduceLT, Int.reduceLE, reduceCtorEq]
    | true =>
      rw [hb] at vc
      have hpl : j / 4 * W + i / 4 < NN := by omega
      have hget := maskC_get (fun c => g c + cI ins W j i c) hpl
      have g1 : (((i / 4 : Nat) : Int) < (W : Int)) = True := eq_true (by omega)
      have g2 : (0 ≤ ((i / 4 : Nat) : Int)) = True := eq_true (by omega)
      have w6 : IntKind.i64.wrap ((i / 4 : Nat) : Int) = ((i / 4 : Nat) : Int) := wr_eq (by omega) (by omega)
      have w7 : ∀ v : Int, IntKind.u8.wrap (v % 256 + 1) = (v + 1) % 256 := fun v => by rw [wrapB]; omega
      have hset := maskC_set (fun c => g c + cI ins W j i c) hpl
      have hle : (j / 4 * W + (i / 4 + 1) ≤ (maskC (fun c => g c + cI ins W j i c) NN).length) = True := eq_true (by rw [maskC_len]; omega)
      try simp only [r12_0, r12_1, r12_2, r12_3, r12_4, r12_5, r12_6, r12_7, r12_8, r12_9, r12_10, r12_11, r12_12, r12_13, r12_14, r12_15, r12_16, r12_17, r12_18, r12_19, r12_20, r12_21, r12_22, r12_23, r12_24, r12_25, r12_26, r12_27, r12_28, c12, F12, f1, d13, vc, f90, f16, f17, w5, tdiv4, w6, g1, g2, qo, hget, Nat.mul_one, Int.toNat_natCast, w7, hle, hset, go_sem, Int.reduceTMod, Int.reduceTDiv, Int.reduceDiv, Int.reduceMod, Int.reduceAdd, Int.reduceSub, Int.reduceMul, Int.reduceNeg, Int.reducePow, Int.reduceEq, ↓reduceIte, Nat.reduceEqDiff, Nat.reduceAdd, Nat.reduceMul, Nat.reduceLeDiff, Nat.reduceSub, Nat.reduceLT, Int.reduceToNat, Int.reduceLT, Int.reduceLE, reduceCtorEq]
      repeat' ((first | refine FK_split (fun h_ => ?_) (fun h_ => ?_) | refine GK_split (fun h_ => ?_) (fun h_ => ?_) | refine ite_both (fun h_ => ?_) (fun h_ => ?_)) <;> (try simp only [decide_eq_true_eq, decide_eq_false_iff_not, Bool.not_true, Bool.not_false, Bool.not_eq_true', Bool.not_eq_false', Bool.not_eq_eq_eq_not, Decidable.not_not] at h_) <;> (try simp only [r12_0, r12_1, r12_2, r12_3, r12_4, r12_5, r12_6, r12_7, r12_8, r12_9, r12_10, r12_11, r12_12, r12_13, r12_14, r12_15, r12_16, r12_17, r12_18, r12_19, r12_20, r12_21, r12_22, r12_23, r12_24, r12_25, r12_26, r12_27, r12_28, c12, F12, f1, d13, vc, f90, f16, f17, w5, tdiv4, w6, g1, g2, qo, hget, Nat.mul_one, Int.toNat_natCast, w7, hle, hset, h_, go_sem, Int.reduceTMod, Int.reduceTDiv, Int.reduceDiv, Int.reduceMod, Int.reduceAdd, Int.reduceSub, Int.reduceMul, Int.reduceNeg, Int.reducePow, Int.reduceEq, ↓reduceIte, Nat.reduceEqDiff, Nat.reduceAdd, Nat.reduceMul, Nat.reduceLeDiff, Nat.reduceSub, Nat.reduceLT, Int.reduceToNat, Int.reduceLT, Int.reduceLE, reduceCtorEq]))
      refine next _ ⟨rfl, ?_, fun id hid => ?_, ?_, fun t ht => ?_, k', hk', ?_, ?_, hnx⟩
      · simp only [go_sem, Int.reduceTMod, Int.reduceTDiv, Int.reduceDiv, Int.reduceMod, Int.reduceAdd, Int.reduceSub, Int.reduceMul, Int.reduceNeg, Int.reducePow, Int.reduceEq, ↓reduceIte, Nat.reduceEqDiff, Nat.reduceAdd, Nat.reduceMul, Nat.reduceLeDiff, Nat.reduceSub, Nat.reduceLT, Int.reduceToNat, Int.reduceLT, Int.reduceLE, reduceCtorEq]
      · exact (upd_ne _ _ hid).trans (qM id hid)
      · refine (upd_same _ _ _).trans ?_
        simp only [Option.some.injEq, Blk.mk.injEq, and_true]
        refine maskC_congr fun c hc => ?_
        rw [cI]
        by_cases hcc : c = j / 4 * W + i / 4
        · rw [if_pos hcc, if_pos ⟨hb, hcc⟩]; omega
        · rw [if_neg hcc, if_neg (fun h => hcc h.2)]; omega
      · simp only
        repeat rw [upd_ne _ _ (by omega)]
        exact ff t ht
      · simp only [go_sem, Int.reduceTMod, Int.reduceTDiv, Int.reduceDiv, Int.reduceMod, Int.reduceAdd, Int.reduceSub, Int.reduceMul, Int.reduceNeg, Int.reducePow, Int.reduceEq, ↓reduceIte, Nat.reduceEqDiff, Nat.reduceAdd, Nat.reduceMul, Nat.reduceLeDiff, Nat.reduceSub, Nat.reduceLT, Int.reduceToNat, Int.reduceLT, Int.reduceLE, reduceCtorEq]
        exact d12.keep (Nat.le_refl _) (fun id h1 h2 => upd_ne _ _ (by omega))
      · simp only [d13, dg, go_sem, Int.reduceTMod, Int.reduceTDiv, Int.reduceDiv, Int.reduceMod, Int.reduceAdd, Int.reduceSub, Int.reduceMul, Int.reduceNeg, Int.reducePow, Int.reduceEq, ↓reduceIte, Nat.reduceEqDiff, Nat.reduceAdd, Nat.reduceMul, Nat.reduceLeDiff, Nat.reduceSub, Nat.reduceLT, Int.reduceToNat, Int.reduceLT, Int.reduceLE, reduceCtorEq]
  · obtain ⟨e, M', N'⟩ := s
    obtain ⟨rfl, q90, qM, qo, qf, k, hk, q12, q13, qt⟩ := hs'
    simp only at q90 qM qo qf q12 q13
    have q89 := (qf 89 (by omega)).trans h89
    have c2 : (((4 * W : Nat) : Int) < ((4 * W : Nat) : Int)) = False := eq_false (by omega)
    try simp only [r12_0, r12_1, r12_2, r12_3, r12_4, r12_5, r12_6, r12_7, r12_8, r12_9, r12_10, r12_11, r12_12, r12_13, r12_14, r12_15, r12_16, r12_17, r12_18, r12_19, r12_20, r12_21, r12_22, r12_23, r12_24, r12_25, r12_26, r12_27, r12_28, c12, F12, l12_2, q90, q89, c2, go_sem, Int.reduceTMod, Int.reduceTDiv, Int.reduceDiv, Int.reduceMod, Int.reduceAdd, Int.reduceSub, Int.reduceMul, Int.reduceNeg, Int.reducePow, Int.reduceEq, ↓reduceIte, Nat.reduceEqDiff, Nat.reduceAdd, Nat.reduceMul, Nat.reduceLeDiff, Nat.reduceSub, Nat.reduceLT, Int.reduceToNat, Int.reduceLT, Int.reduceLE, reduceCtorEq]
    repeat' ((first | refine FK_split (fun h_ => ?_) (fun h_ => ?_) | refine GK_split (fun h_ => ?_) (fun h_ => ?_) | refine ite_both (fun h_ => ?_) (fun h_ => ?_)) <;> (try simp only [decide_eq_true_eq, decide_eq_false_iff_not, Bool.not_true, Bool.not_false, Bool.not_eq_true', Bool.not_eq_false', Bool.not_eq_eq_eq_not, Decidable.not_not] at h_) <;> (try simp only [r12_0, r12_1, r12_2, r12_3, r12_4, r12_5, r12_6, r12_7, r12_8, r12_9, r12_10, r12_11, r12_12, r12_13, r12_14, r12_15, r12_16, r12_17, r12_18, r12_19, r12_20, r12_21, r12_22, r12_23, r12_24, r12_25, r12_26, r12_27, r12_28, c12, F12, l12_2, q90, q89, c2, h_, go_sem, Int.reduceTMod, Int.reduceTDiv, Int.reduceDiv, Int.reduceMod, Int.reduceAdd, Int.reduceSub, Int.reduceMul, Int.reduceNeg, Int.reducePow, Int.reduceEq, ↓reduceIte, Nat.reduceEqDiff, Nat.reduceAdd, Nat.reduceMul, Nat.reduceLeDiff, Nat.reduceSub, Nat.reduceLT, Int.reduceToNat, Int.reduceLT, Int.reduceLE, reduceCtorEq]))
    refine hend _ _ qM qo (fun t ht => ?_)
    repeat rw [upd_ne _ _ (by omega)]
    exact qf t ht
  · simp only [cI, Int.add_zero]
    exact hMo

/- What polygons cover in a window: the program's mask, walked. Conditions: those that each theorem names. -/
open Go Go.Proofs
set_option linter.unusedSimpArgs false
set_option linter.unusedVariables false

abbrev frC (t : Nat) : Prop := t < 13 ∨ t = 14 ∨ (15 < t ∧ t < 68) ∨ 76 < t
theorem byS_snoc {C : List XC} {k : Nat} {c : XC} (h : C[k]? = some c) : byS (C.take (k + 1)) = byS (C.take k) + c.2 := by
  rw [take_snoc h, byS_append]
  simp [byS]
/-- The sum of a row's crossings. -/
theorem sum_loop {K : Kt} {C : List XC} {N : Nat} {M : Mem} {e0 : Nat → Reg} (hl : C.length ≤ 1200) (hby : ∀ c ∈ C, -1 ≤ c.2 ∧ c.2 ≤ 1) (h66 : RL encX 2 M N (e0 66) C) (h67 : e0 67 = RI C.length) (h68 : e0 68 = RI 0) (h13 : e0 13 = RI 0)
    (hend : ∀ (e : Nat → Reg) (M' : Mem) (N' : Nat), N ≤ N' → (∀ id, id < N → M' id = M id) → e 13 = RI (byS C) → (∀ t, frC t → e t = e0 t) → KX TA K 2 ⟨e, M', N'⟩) :
    XK TA (.loop l12_0) ⟨e0, M, N⟩ K := by
  refine XK_iter (inv := fun k s => s.e 68 = RI k ∧ N ≤ s.n ∧ (∀ id, id < N → s.m id = M id) ∧ s.e 13 = RI (byS (C.take k)) ∧ (∀ t, frC t → s.e t = e0 t)) C.length
    (fun L _ => ⟨fun k hk s hs next => ?_, fun s hs => ?_⟩) 0 (by omega) _ ⟨h68, Nat.le_refl _, fun _ _ => rfl, h13, fun _ _ => rfl⟩
  · obtain ⟨e, M', N'⟩ := s
    obtain ⟨q68, qn, qM, q13, qf⟩ := hs
    simp only at q68 qn qM q13 qf
    have q66 := qf 66 (by omega)
    have q67 := (qf 67 (by omega)).trans h67
    have hck : C[k]? = some C[k] := List.getElem?_eq_getElem hk
    obtain ⟨id, off, cap, hr1, hid, hrd⟩ := (h66.keep qn qM).at ce2 hck
    have hcb := hby _ (List.getElem_mem hk)
    have hbs := byS_snoc hck
    have hbd := byS_bd (C := C.take k) (fun d hd => hby d (List.mem_of_mem_take hd))
    rw [List.length_take] at hbd
    generalize C[k] = c at *
    have c2 : ((k : Int) < (C.length : Int)) = True := eq_true (by omega)
    have c3 : (0 ≤ (k : Int)) = True := eq_true (by omega)
    have w1 : IntKind.i64.wrap (byS (C.take k) + c.2) = byS (C.take (k + 1)) := (wr_eq (by omega) (by omega)).trans hbs.symm
    have w5 : IntKind.i64.wrap ((k : Int) + 1) = ((k + 1 : Nat) : Int) := wr_nat (by omega)
    rw [hr1] at q66
    simp only [encX] at hrd
    try simp only [r12_0, r12_1, r12_2, r12_3, r12_4, r12_5, r12_6, r12_7, r12_8, r12_9, r12_10, r12_11, r12_12, r12_13, r12_14, r12_15, r12_16, r12_17, r12_18, r12_19, r12_20, r12_21, r12_22, r12_23, r12_24, r12_25, r12_26, r12_27, r12_28, c12, F12, l12_0, q68, q66, q67, q13, c2, c3, hrd, w1, w5, Int.toNat_natCast, go_sem, Int.reduceTMod, Int.reduceTDiv, Int.reduceDiv, Int.reduceMod, Int.reduceAdd, Int.reduceSub, Int.reduceMul, Int.reduceNeg, Int.reducePow, Int.reduceEq, ↓reduceIte, Nat.reduceEqDiff, Nat.reduceAdd, Nat.reduceMul, Nat.reduceLeDiff, Nat.reduceSub, Nat.reduceLT, Int.reduceToNat, Int.reduceLT, Int.reduceLE, reduceCtorEq]
    repeat' ((first | refine FK_split (fun h_ => ?_) (fun h_ => ?_) | refine GK_split (fun h_ => ?_) (fun h_ => ?_) | refine ite_both (fun h_ => ?_) (fun h_ => ?_)) <;> (try simp only [decide_eq_true_eq, decide_eq_false_iff_not, Bool.not_true, Bool.not_false, Bool.not_eq_true', Bool.not_eq_false', Bool.not_eq_eq_eq_not, Decidable.not_not] at h_) <;> (try simp only [r12_0, r12_1, r12_2, r12_3, r12_4, r12_5, r12_6, r12_7, r12_8, r12_9, r12_10, r12_11, r12_12, r12_13, r12_14, r12_15, r12_16, r12_17, r12_18, r12_19, r12_20, r12_21, r12_22, r12_23, r12_24, r12_25, r12_26, r12_27, r12_28, c12, F12, l12_0, q68, q66, q67, q13, c2, c3, hrd, w1, w5, Int.toNat_natCast, h_, go_sem, Int.reduceTMod, Int.reduceTDiv, Int.reduceDiv, Int.reduceMod, Int.reduceAdd, Int.reduceSub, Int.reduceMul, Int.reduceNeg, Int.reducePow, Int.reduceEq, ↓reduceIte, Nat.reduceEqDiff, Nat.reduceAdd, Nat.reduceMul, Nat.reduceLeDiff, Nat.reduceSub, Nat.reduceLT, Int.reduceToNat, Int.reduceLT, Int.reduceLE, reduceCtorEq]))
    refine next _ ⟨?_, by simp only; omega, fun id hid => ?_, ?_, fun t ht => ?_⟩
    · simp only [go_sem, Int.reduceTMod, Int.reduceTDiv, Int.reduceDiv, Int.reduceMod, Int.reduceAdd, Int.reduceSub, Int.reduceMul, Int.reduceNeg, Int.reducePow, Int.reduceEq, ↓reduceIte, Nat.reduceEqDiff, Nat.reduceAdd, Nat.reduceMul, Nat.reduceLeDiff, Nat.reduceSub, Nat.reduceLT, Int.reduceToNat, Int.reduceLT, Int.reduceLE, reduceCtorEq]
    · simp only
      simp only [na_0 (show id < N' by omega), go_sem, Int.reduceTMod, Int.reduceTDiv, Int.reduceDiv, Int.reduceMod, Int.reduceAdd, Int.reduceSub, Int.reduceMul, Int.reduceNeg, Int.reducePow, Int.reduceEq, ↓reduceIte, Nat.reduceEqDiff, Nat.reduceAdd, Nat.reduceMul, Nat.reduceLeDiff, Nat.reduceSub, Nat.reduceLT, Int.reduceToNat, Int.reduceLT, Int.reduceLE, reduceCtorEq]
      exact qM id hid
    · simp only [go_sem, Int.reduceTMod, Int.reduceTDiv, Int.reduceDiv, Int.reduceMod, Int.reduceAdd, Int.reduceSub, Int.reduceMul, Int.reduceNeg, Int.reducePow, Int.reduceEq, ↓reduceIte, Nat.reduceEqDiff, Nat.reduceAdd, Nat.reduceMul, Nat.reduceLeDiff, Nat.reduceSub, Nat.reduceLT, Int.reduceToNat, Int.reduceLT, Int.reduceLE, reduceCtorEq]
    · simp only
      repeat rw [upd_ne _ _ (by omega)]
      exact qf t ht
  · obtain ⟨e, M', N'⟩ := s
    obtain ⟨q68, qn, qM, q13, qf⟩ := hs
    simp only at q68 qn qM q13 qf
    have q67 := (qf 67 (by omega)).trans h67
    have c2 : ((C.length : Int) < (C.length : Int)) = False := eq_false (by omega)
    rw [List.take_length] at q13
    try simp only [r12_0, r12_1, r12_2, r12_3, r12_4, r12_5, r12_6, r12_7, r12_8, r12_9, r12_10, r12_11, r12_12, r12_13, r12_14, r12_15, r12_16, r12_17, r12_18, r12_19, r12_20, r12_21, r12_22, r12_23, r12_24, r12_25, r12_26, r12_27, r12_28, c12, F12, l12_0, q68, q67, c2, go_sem, Int.reduceTMod, Int.reduceTDiv, Int.reduceDiv, Int.reduceMod, Int.reduceAdd, Int.reduceSub, Int.reduceMul, Int.reduceNeg, Int.reducePow, Int.reduceEq, ↓reduceIte, Nat.reduceEqDiff, Nat.reduceAdd, Nat.reduceMul, Nat.reduceLeDiff, Nat.reduceSub, Nat.reduceLT, Int.reduceToNat, Int.reduceLT, Int.reduceLE, reduceCtorEq]
    repeat' ((first | refine FK_split (fun h_ => ?_) (fun h_ => ?_) | refine GK_split (fun h_ => ?_) (fun h_ => ?_) | refine ite_both (fun h_ => ?_) (fun h_ => ?_)) <;> (try simp only [decide_eq_true_eq, decide_eq_false_iff_not, Bool.not_true, Bool.not_false, Bool.not_eq_true', Bool.not_eq_false', Bool.not_eq_eq_eq_not, Decidable.not_not] at h_) <;> (try simp only [r12_0, r12_1, r12_2, r12_3, r12_4, r12_5, r12_6, r12_7, r12_8, r12_9, r12_10, r12_11, r12_12, r12_13, r12_14, r12_15, r12_16, r12_17, r12_18, r12_19, r12_20, r12_21, r12_22, r12_23, r12_24, r12_25, r12_26, r12_27, r12_28, c12, F12, l12_0, q68, q67, c2, h_, go_sem, Int.reduceTMod, Int.reduceTDiv, Int.reduceDiv, Int.reduceMod, Int.reduceAdd, Int.reduceSub, Int.reduceMul, Int.reduceNeg, Int.reducePow, Int.reduceEq, ↓reduceIte, Nat.reduceEqDiff, Nat.reduceAdd, Nat.reduceMul, Nat.reduceLeDiff, Nat.reduceSub, Nat.reduceLT, Int.reduceToNat, Int.reduceLT, Int.reduceLE, reduceCtorEq]))
    refine hend _ _ _ qn qM q13 (fun t ht => ?_)
    repeat rw [upd_ne _ _ (by omega)]
    exact qf t ht

/-- Is the sample i of the row j inside? -/
def insM (L : List (List Pt)) (rule x0 y0 : Int) (j i : Nat) : Bool := inV rule (wSum L ⟨x0 * 256 + 32 + i * 64, y0 * 256 + 32 + j * 64⟩ L.length)
theorem rep1 {α : Type} (a : α) : ∀ n : Nat, (List.replicate n [a]).flatten = List.replicate n a
  | 0 => rfl
  | n + 1 => by rw [List.replicate_succ, List.flatten_cons, rep1 a n, List.replicate_succ]; rfl
/-- The rows of samples. -/
theorem rows_loop {K : Kt} {r : Reg} {L : List (List Pt)} {rule x0 y0 : Int} {W H : Nat} {m : Mem} {n : Nat} {e0 : Nat → Reg} {M0 : Mem} {N0 : Nat} (hr : RPP m n r L) (hn60 : L.length ≤ 60) (hL : ∀ l ∈ L, l.length ≤ 20) (hi : ∀ l ∈ L, l.all inP = true)
    (hW : W ≤ 256) (hH : H ≤ 256) (hx : -4194304 ≤ x0 ∧ x0 ≤ 4194304) (hy : -4194304 ≤ y0 ∧ y0 + H ≤ 4194304) (h0 : e0 0 = r) (h1 : e0 1 = RI rule) (h5 : e0 5 = .one (.ptr n 0)) (h9 : e0 9 = RI W) (h10 : e0 10 = .one (.sl (n + 1) 0 (W * H) (some (W * H)) 1))
    (h53 : e0 53 = RI ((4 * H : Nat) : Int)) (h54 : e0 54 = RI 0) (hN : n + 2 ≤ N0) (hm : ∀ id, id < n → M0 id = m id) (hb : M0 n = some ⟨[I x0, I y0, I (x0 + W), I (y0 + H)], true⟩) (ho : M0 (n + 1) = some ⟨maskC (fun _ => 0) (W * H), true⟩)
    (hend : ∀ (e : Nat → Reg) (M' : Mem) (N' : Nat), N0 ≤ N' → (∀ id, id < n → M' id = m id) → M' (n + 1) = some ⟨maskC (cJ (insM L rule x0 y0) W (4 * H)) (W * H), true⟩ → e 10 = .one (.sl (n + 1) 0 (W * H) (some (W * H)) 1) → KX TA K 0 ⟨e, M', N'⟩) :
    XK TA (.loop l12_3) ⟨e0, M0, N0⟩ K := by
  have hWH : W * H ≤ 65536 := Nat.mul_le_mul hW hH
  refine XK_iter (inv := fun j s => s.e 54 = RI j ∧ s.e 53 = RI ((4 * H : Nat) : Int) ∧ s.e 10 = .one (.sl (n + 1) 0 (W * H) (some (W * H)) 1) ∧ s.e 9 = RI W ∧ s.e 5 = .one (.ptr n 0) ∧ s.e 1 = RI rule ∧ s.e 0 = r ∧ N0 ≤ s.n ∧ (∀ id, id < n → s.m id = m id) ∧
      s.m n = some ⟨[I x0, I y0, I (x0 + W), I (y0 + H)], true⟩ ∧ s.m (n + 1) = some ⟨maskC (cJ (insM L rule x0 y0) W j) (W * H), true⟩) (4 * H)
    (fun B _ => ⟨fun j hj s hs next => ?_, fun s hs => ?_⟩) 0 (by omega) _ ⟨h54, h53, h10, h9, h5, h1, h0, Nat.le_refl _, hm, hb, ho⟩
  · obtain ⟨e, M, N⟩ := s
    obtain ⟨q54, q53, q10, q9, q5, q1, q0, qn, qm, qb, qo⟩ := hs
    simp only at q54 q53 q10 q9 q5 q1 q0 qn qm qb qo
    have c2 : ((j : Int) < ((4 * H : Nat) : Int)) = True := eq_true (by omega)
    obtain ⟨y, hyy⟩ : ∃ y, y = y0 * 256 + 32 + (j : Int) * 64 := ⟨_, rfl⟩
    have v1 : IntKind.i64.wrap (y0 * 256) = y0 * 256 := wr_eq (by omega) (by omega)
    have v2 : IntKind.i64.wrap (y0 * 256 + 32) = y0 * 256 + 32 := wr_eq (by omega) (by omega)
    have v3 : IntKind.i64.wrap ((j : Int) * 64) = (j : Int) * 64 := wr_eq (by omega) (by omega)
    have v4 : IntKind.i64.wrap (y0 * 256 + 32 + (j : Int) * 64) = y := (wr_eq (by omega) (by omega)).trans hyy.symm
    have hry : rm y = true := rm_iff.2 (by omega)
    have hrM : RPP M N r L := hr.keep (by omega) qm
    try simp only [r12_0, r12_1, r12_2, r12_3, r12_4, r12_5, r12_6, r12_7, r12_8, r12_9, r12_10, r12_11, r12_12, r12_13, r12_14, r12_15, r12_16, r12_17, r12_18, r12_19, r12_20, r12_21, r12_22, r12_23, r12_24, r12_25, r12_26, r12_27, r12_28, c12, F12, l12_3, q54, q53, q0, q5, c2, qb, rd_of qb, v1, v2, v3, v4, go_sem, Int.reduceTMod, Int.reduceTDiv, Int.reduceDiv, Int.reduceMod, Int.reduceAdd, Int.reduceSub, Int.reduceMul, Int.reduceNeg, Int.reducePow, Int.reduceEq, ↓reduceIte, Nat.reduceEqDiff, Nat.reduceAdd, Nat.reduceMul, Nat.reduceLeDiff, Nat.reduceSub, Nat.reduceLT, Int.reduceToNat, Int.reduceLT, Int.reduceLE, reduceCtorEq]
    repeat' ((first | refine FK_split (fun h_ => ?_) (fun h_ => ?_) | refine GK_split (fun h_ => ?_) (fun h_ => ?_) | refine ite_both (fun h_ => ?_) (fun h_ => ?_)) <;> (try simp only [decide_eq_true_eq, decide_eq_false_iff_not, Bool.not_true, Bool.not_false, Bool.not_eq_true', Bool.not_eq_false', Bool.not_eq_eq_eq_not, Decidable.not_not] at h_) <;> (try simp only [r12_0, r12_1, r12_2, r12_3, r12_4, r12_5, r12_6, r12_7, r12_8, r12_9, r12_10, r12_11, r12_12, r12_13, r12_14, r12_15, r12_16, r12_17, r12_18, r12_19, r12_20, r12_21, r12_22, r12_23, r12_24, r12_25, r12_26, r12_27, r12_28, c12, F12, l12_3, q54, q53, q0, q5, c2, qb, rd_of qb, v1, v2, v3, v4, h_, go_sem, Int.reduceTMod, Int.reduceTDiv, Int.reduceDiv, Int.reduceMod, Int.reduceAdd, Int.reduceSub, Int.reduceMul, Int.reduceNeg, Int.reducePow, Int.reduceEq, ↓reduceIte, Nat.reduceEqDiff, Nat.reduceAdd, Nat.reduceMul, Nat.reduceLeDiff, Nat.reduceSub, Nat.reduceLT, Int.reduceToNat, Int.reduceLT, Int.reduceLE, reduceCtorEq]))
    refine RK_callk ?_
    simp only [go_sem, Int.reduceTMod, Int.reduceTDiv, Int.reduceDiv, Int.reduceMod, Int.reduceAdd, Int.reduceSub, Int.reduceMul, Int.reduceNeg, Int.reducePow, Int.reduceEq, ↓reduceIte, Nat.reduceEqDiff, Nat.reduceAdd, Nat.reduceMul, Nat.reduceLeDiff, Nat.reduceSub, Nat.reduceLT, Int.reduceToNat, Int.reduceLT, Int.reduceLE, reduceCtorEq]
    refine (w_row r L y (frz M) N hrM.frz hn60 hL hi hry).mono ?_
    rintro r1 m1 n1 ⟨hn1, hO, _⟩
    rw [show max N n1 = n1 by omega]
    have hO1 : OL encX 2 N (unfrz M N m1) n1 r1 (rowC L y) := hO.keep (Nat.le_refl _) (fun id h1 h2 => by rw [unfrz_at, if_neg (by omega)])
    have hf1 : ∀ id, id < N → unfrz M N m1 id = M id := fun id hid => by rw [unfrz_at, if_pos hid]
    generalize unfrz M N m1 = M1 at *
    have hlen := (DX.of hO1).len
    have hl := rowC_len L y hn60 hL
    have hby := rowC_by L y
    have hso : (rowC L y).Pairwise (fun a b => a.1 ≤ b.1) := sortX_sorted _
    have hgt : ∀ x, gtS x (rowC L y) = wSum L ⟨x, y⟩ L.length := gtS_row L y
    generalize rowC L y = C at *
    try simp only [r12_0, r12_1, r12_2, r12_3, r12_4, r12_5, r12_6, r12_7, r12_8, r12_9, r12_10, r12_11, r12_12, r12_13, r12_14, r12_15, r12_16, r12_17, r12_18, r12_19, r12_20, r12_21, r12_22, r12_23, r12_24, r12_25, r12_26, r12_27, r12_28, c12, F12, hlen, go_sem, Int.reduceTMod, Int.reduceTDiv, Int.reduceDiv, Int.reduceMod, Int.reduceAdd, Int.reduceSub, Int.reduceMul, Int.reduceNeg, Int.reducePow, Int.reduceEq, ↓reduceIte, Nat.reduceEqDiff, Nat.reduceAdd, Nat.reduceMul, Nat.reduceLeDiff, Nat.reduceSub, Nat.reduceLT, Int.reduceToNat, Int.reduceLT, Int.reduceLE, reduceCtorEq]
    repeat' ((first | refine FK_split (fun h_ => ?_) (fun h_ => ?_) | refine GK_split (fun h_ => ?_) (fun h_ => ?_) | refine ite_both (fun h_ => ?_) (fun h_ => ?_)) <;> (try simp only [decide_eq_true_eq, decide_eq_false_iff_not, Bool.not_true, Bool.not_false, Bool.not_eq_true', Bool.not_eq_false', Bool.not_eq_eq_eq_not, Decidable.not_not] at h_) <;> (try simp only [r12_0, r12_1, r12_2, r12_3, r12_4, r12_5, r12_6, r12_7, r12_8, r12_9, r12_10, r12_11, r12_12, r12_13, r12_14, r12_15, r12_16, r12_17, r12_18, r12_19, r12_20, r12_21, r12_22, r12_23, r12_24, r12_25, r12_26, r12_27, r12_28, c12, F12, hlen, h_, go_sem, Int.reduceTMod, Int.reduceTDiv, Int.reduceDiv, Int.reduceMod, Int.reduceAdd, Int.reduceSub, Int.reduceMul, Int.reduceNeg, Int.reducePow, Int.reduceEq, ↓reduceIte, Nat.reduceEqDiff, Nat.reduceAdd, Nat.reduceMul, Nat.reduceLeDiff, Nat.reduceSub, Nat.reduceLT, Int.reduceToNat, Int.reduceLT, Int.reduceLE, reduceCtorEq]))
    refine sum_loop hl hby (C := C) (by simp only [go_sem, Int.reduceTMod, Int.reduceTDiv, Int.reduceDiv, Int.reduceMod, Int.reduceAdd, Int.reduceSub, Int.reduceMul, Int.reduceNeg, Int.reducePow, Int.reduceEq, ↓reduceIte, Nat.reduceEqDiff, Nat.reduceAdd, Nat.reduceMul, Nat.reduceLeDiff, Nat.reduceSub, Nat.reduceLT, Int.reduceToNat, Int.reduceLT, Int.reduceLE, reduceCtorEq]; exact hO1.rl ce2) (by simp only [go_sem, Int.reduceTMod, Int.reduceTDiv, Int.reduceDiv, Int.reduceMod, Int.reduceAdd, Int.reduceSub, Int.reduceMul, Int.reduceNeg, Int.reducePow, Int.reduceEq, ↓reduceIte, Nat.reduceEqDiff, Nat.reduceAdd, Nat.reduceMul, Nat.reduceLeDiff, Nat.reduceSub, Nat.reduceLT, Int.reduceToNat, Int.reduceLT, Int.reduceLE, reduceCtorEq]) (by simp only [go_sem, Int.reduceTMod, Int.reduceTDiv, Int.reduceDiv, Int.reduceMod, Int.reduceAdd, Int.reduceSub, Int.reduceMul, Int.reduceNeg, Int.reducePow, Int.reduceEq, ↓reduceIte, Nat.reduceEqDiff, Nat.reduceAdd, Nat.reduceMul, Nat.reduceLeDiff, Nat.reduceSub, Nat.reduceLT, Int.reduceToNat, Int.reduceLT, Int.reduceLE, reduceCtorEq]) (by simp only [go_sem, Int.reduceTMod, Int.reduceTDiv, Int.reduceDiv, Int.reduceMod, Int.reduceAdd, Int.reduceSub, Int.reduceMul, Int.reduceNeg, Int.reducePow, Int.reduceEq, ↓reduceIte, Nat.reduceEqDiff, Nat.reduceAdd, Nat.reduceMul, Nat.reduceLeDiff, Nat.reduceSub, Nat.reduceLT, Int.reduceToNat, Int.reduceLT, Int.reduceLE, reduceCtorEq]) (fun e2 M2 N2 hn2 hM2 d13 df => ?_)
    have f (t : Nat) (ht : frC t) := df t ht
    have f10 := (df 10 (by omega)).trans (show _ = e 10 by simp only [go_sem, Int.reduceTMod, Int.reduceTDiv, Int.reduceDiv, Int.reduceMod, Int.reduceAdd, Int.reduceSub, Int.reduceMul, Int.reduceNeg, Int.reducePow, Int.reduceEq, ↓reduceIte, Nat.reduceEqDiff, Nat.reduceAdd, Nat.reduceMul, Nat.reduceLeDiff, Nat.reduceSub, Nat.reduceLT, Int.reduceToNat, Int.reduceLT, Int.reduceLE, reduceCtorEq])
    have f9 := (df 9 (by omega)).trans (show _ = e 9 by simp only [go_sem, Int.reduceTMod, Int.reduceTDiv, Int.reduceDiv, Int.reduceMod, Int.reduceAdd, Int.reduceSub, Int.reduceMul, Int.reduceNeg, Int.reducePow, Int.reduceEq, ↓reduceIte, Nat.reduceEqDiff, Nat.reduceAdd, Nat.reduceMul, Nat.reduceLeDiff, Nat.reduceSub, Nat.reduceLT, Int.reduceToNat, Int.reduceLT, Int.reduceLE, reduceCtorEq])
    have f5 := (df 5 (by omega)).trans (show _ = e 5 by simp only [go_sem, Int.reduceTMod, Int.reduceTDiv, Int.reduceDiv, Int.reduceMod, Int.reduceAdd, Int.reduceSub, Int.reduceMul, Int.reduceNeg, Int.reducePow, Int.reduceEq, ↓reduceIte, Nat.reduceEqDiff, Nat.reduceAdd, Nat.reduceMul, Nat.reduceLeDiff, Nat.reduceSub, Nat.reduceLT, Int.reduceToNat, Int.reduceLT, Int.reduceLE, reduceCtorEq])
    have f1 := (df 1 (by omega)).trans (show _ = e 1 by simp only [go_sem, Int.reduceTMod, Int.reduceTDiv, Int.reduceDiv, Int.reduceMod, Int.reduceAdd, Int.reduceSub, Int.reduceMul, Int.reduceNeg, Int.reducePow, Int.reduceEq, ↓reduceIte, Nat.reduceEqDiff, Nat.reduceAdd, Nat.reduceMul, Nat.reduceLeDiff, Nat.reduceSub, Nat.reduceLT, Int.reduceToNat, Int.reduceLT, Int.reduceLE, reduceCtorEq])
    have f0 := (df 0 (by omega)).trans (show _ = e 0 by simp only [go_sem, Int.reduceTMod, Int.reduceTDiv, Int.reduceDiv, Int.reduceMod, Int.reduceAdd, Int.reduceSub, Int.reduceMul, Int.reduceNeg, Int.reducePow, Int.reduceEq, ↓reduceIte, Nat.reduceEqDiff, Nat.reduceAdd, Nat.reduceMul, Nat.reduceLeDiff, Nat.reduceSub, Nat.reduceLT, Int.reduceToNat, Int.reduceLT, Int.reduceLE, reduceCtorEq])
    have f53 := (df 53 (by omega)).trans (show _ = e 53 by simp only [go_sem, Int.reduceTMod, Int.reduceTDiv, Int.reduceDiv, Int.reduceMod, Int.reduceAdd, Int.reduceSub, Int.reduceMul, Int.reduceNeg, Int.reducePow, Int.reduceEq, ↓reduceIte, Nat.reduceEqDiff, Nat.reduceAdd, Nat.reduceMul, Nat.reduceLeDiff, Nat.reduceSub, Nat.reduceLT, Int.reduceToNat, Int.reduceLT, Int.reduceLE, reduceCtorEq])
    have f54 := (df 54 (by omega)).trans (show _ = e 54 by simp only [go_sem, Int.reduceTMod, Int.reduceTDiv, Int.reduceDiv, Int.reduceMod, Int.reduceAdd, Int.reduceSub, Int.reduceMul, Int.reduceNeg, Int.reducePow, Int.reduceEq, ↓reduceIte, Nat.reduceEqDiff, Nat.reduceAdd, Nat.reduceMul, Nat.reduceLeDiff, Nat.reduceSub, Nat.reduceLT, Int.reduceToNat, Int.reduceLT, Int.reduceLE, reduceCtorEq])
    have f11 := (df 11 (by omega)).trans (show _ = RI j by simp only [go_sem, Int.reduceTMod, Int.reduceTDiv, Int.reduceDiv, Int.reduceMod, Int.reduceAdd, Int.reduceSub, Int.reduceMul, Int.reduceNeg, Int.reducePow, Int.reduceEq, ↓reduceIte, Nat.reduceEqDiff, Nat.reduceAdd, Nat.reduceMul, Nat.reduceLeDiff, Nat.reduceSub, Nat.reduceLT, Int.reduceToNat, Int.reduceLT, Int.reduceLE, reduceCtorEq])
    have f12 := (df 12 (by omega)).trans (show _ = r1 by simp only [go_sem, Int.reduceTMod, Int.reduceTDiv, Int.reduceDiv, Int.reduceMod, Int.reduceAdd, Int.reduceSub, Int.reduceMul, Int.reduceNeg, Int.reducePow, Int.reduceEq, ↓reduceIte, Nat.reduceEqDiff, Nat.reduceAdd, Nat.reduceMul, Nat.reduceLeDiff, Nat.reduceSub, Nat.reduceLT, Int.reduceToNat, Int.reduceLT, Int.reduceLE, reduceCtorEq])
    clear df
    rw [q10] at f10
    rw [q9] at f9
    rw [q5] at f5
    rw [q1] at f1
    rw [q0] at f0
    rw [q53] at f53
    rw [q54] at f54
    have hjH : j / 4 + 1 ≤ H := by omega
    have hrow : (j / 4 + 1) * W ≤ W * H := by rw [Nat.mul_comm W H]; exact Nat.mul_le_mul_right W hjH
    have hrow2 : (j / 4 + 1) * W = j / 4 * W + W := by rw [Nat.add_mul, Nat.one_mul]
    have k1 : IntKind.i64.wrap ((j / 4 : Nat) : Int) = ((j / 4 : Nat) : Int) := wr_eq (by omega) (by omega)
    have k2 : IntKind.i64.wrap (((j / 4 : Nat) : Int) * (W : Int)) = ((j / 4 * W : Nat) : Int) := by rw [← Int.natCast_mul]; exact wr_eq (by omega) (by omega)
    have k3 : IntKind.i64.wrap (((j / 4 : Nat) : Int) + 1) = ((j / 4 + 1 : Nat) : Int) := (wr_eq (by omega) (by omega)).trans (by omega)
    have k4 : IntKind.i64.wrap (((j / 4 + 1 : Nat) : Int) * (W : Int)) = (((j / 4 + 1) * W : Nat) : Int) := by rw [← Int.natCast_mul]; exact wr_eq (by omega) (by omega)
    have k5 : IntKind.i64.wrap ((W : Int) * 4) = ((4 * W : Nat) : Int) := (wr_eq (by omega) (by omega)).trans (by omega)
    have hbn : bnds (W * H) (some (W * H)) (some (RI ((j / 4 * W : Nat) : Int))) (some (RI (((j / 4 + 1) * W : Nat) : Int))) none = some (j / 4 * W, (j / 4 + 1) * W, some (W * H - j / 4 * W)) := by
      have z1 : (0 : Int) ≤ ((j / 4 * W : Nat) : Int) := by omega
      have z2 : (0 : Int) ≤ (((j / 4 + 1) * W : Nat) : Int) := by omega
      have z3 : (((j / 4 + 1) * W : Nat) : Int) ≤ ((W * H : Nat) : Int) := by omega
      have z4 : ((j / 4 * W : Nat) : Int) ≤ (((j / 4 + 1) * W : Nat) : Int) := by omega
      simp only [bnds, bMax, bHigh, bLow, inR, ix, Option.getD_some, if_pos (And.intro z2 z3), if_pos (And.intro z1 z4), Option.map_some, Int.toNat_natCast]
    have hlw : (j / 4 + 1) * W - j / 4 * W = W := by omega
    have b2 : M2 n = some ⟨[I x0, I y0, I (x0 + W), I (y0 + H)], true⟩ := by rw [hM2 n (by omega), hf1 n (by omega)]; exact qb
    have o2 : M2 (n + 1) = some ⟨maskC (cJ (insM L rule x0 y0) W j) (W * H), true⟩ := by rw [hM2 (n + 1) (by omega), hf1 (n + 1) (by omega)]; exact qo
    try simp only [r12_0, r12_1, r12_2, r12_3, r12_4, r12_5, r12_6, r12_7, r12_8, r12_9, r12_10, r12_11, r12_12, r12_13, r12_14, r12_15, r12_16, r12_17, r12_18, r12_19, r12_20, r12_21, r12_22, r12_23, r12_24, r12_25, r12_26, r12_27, r12_28, c12, F12, f10, f9, f11, tdiv4, k1, k2, k3, k4, k5, hbn, hlw, Option.map_none, Nat.mul_one, Nat.zero_add, go_sem, Int.reduceTMod, Int.reduceTDiv, Int.reduceDiv, Int.reduceMod, Int.reduceAdd, Int.reduceSub, Int.reduceMul, Int.reduceNeg, Int.reducePow, Int.reduceEq, ↓reduceIte, Nat.reduceEqDiff, Nat.reduceAdd, Nat.reduceMul, Nat.reduceLeDiff, Nat.reduceSub, Nat.reduceLT, Int.reduceToNat, Int.reduceLT, Int.reduceLE, reduceCtorEq]
    repeat' ((first | refine FK_split (fun h_ => ?_) (fun h_ => ?_) | refine GK_split (fun h_ => ?_) (fun h_ => ?_) | refine ite_both (fun h_ => ?_) (fun h_ => ?_)) <;> (try simp only [decide_eq_true_eq, decide_eq_false_iff_not, Bool.not_true, Bool.not_false, Bool.not_eq_true', Bool.not_eq_false', Bool.not_eq_eq_eq_not, Decidable.not_not] at h_) <;> (try simp only [r12_0, r12_1, r12_2, r12_3, r12_4, r12_5, r12_6, r12_7, r12_8, r12_9, r12_10, r12_11, r12_12, r12_13, r12_14, r12_15, r12_16, r12_17, r12_18, r12_19, r12_20, r12_21, r12_22, r12_23, r12_24, r12_25, r12_26, r12_27, r12_28, c12, F12, f10, f9, f11, tdiv4, k1, k2, k3, k4, k5, hbn, hlw, Option.map_none, Nat.mul_one, Nat.zero_add, h_, go_sem, Int.reduceTMod, Int.reduceTDiv, Int.reduceDiv, Int.reduceMod, Int.reduceAdd, Int.reduceSub, Int.reduceMul, Int.reduceNeg, Int.reducePow, Int.reduceEq, ↓reduceIte, Nat.reduceEqDiff, Nat.reduceAdd, Nat.reduceMul, Nat.reduceLeDiff, Nat.reduceSub, Nat.reduceLT, Int.reduceToNat, Int.reduceLT, Int.reduceLE, reduceCtorEq]))
    refine col_loop (C := C) (x0 := x0) (rule := rule) (W := W) (NN := W * H) (o := n + 1) (base := N) (nb := n) (j := j) (ins := insM L rule x0 y0) (g := cJ (insM L rule x0 y0) W j) (cap := some (W * H - j / 4 * W)) hso hl hby hW hx (fun i _ => by rw [hgt]; unfold insM; rw [hyy]) (by omega) hWH
      (by simp only [f1, go_sem, Int.reduceTMod, Int.reduceTDiv, Int.reduceDiv, Int.reduceMod, Int.reduceAdd, Int.reduceSub, Int.reduceMul, Int.reduceNeg, Int.reducePow, Int.reduceEq, ↓reduceIte, Nat.reduceEqDiff, Nat.reduceAdd, Nat.reduceMul, Nat.reduceLeDiff, Nat.reduceSub, Nat.reduceLT, Int.reduceToNat, Int.reduceLT, Int.reduceLE, reduceCtorEq]) (by simp only [f5, go_sem, Int.reduceTMod, Int.reduceTDiv, Int.reduceDiv, Int.reduceMod, Int.reduceAdd, Int.reduceSub, Int.reduceMul, Int.reduceNeg, Int.reducePow, Int.reduceEq, ↓reduceIte, Nat.reduceEqDiff, Nat.reduceAdd, Nat.reduceMul, Nat.reduceLeDiff, Nat.reduceSub, Nat.reduceLT, Int.reduceToNat, Int.reduceLT, Int.reduceLE, reduceCtorEq]) (by simp only [go_sem, Int.reduceTMod, Int.reduceTDiv, Int.reduceDiv, Int.reduceMod, Int.reduceAdd, Int.reduceSub, Int.reduceMul, Int.reduceNeg, Int.reducePow, Int.reduceEq, ↓reduceIte, Nat.reduceEqDiff, Nat.reduceAdd, Nat.reduceMul, Nat.reduceLeDiff, Nat.reduceSub, Nat.reduceLT, Int.reduceToNat, Int.reduceLT, Int.reduceLE, reduceCtorEq]) (by simp only [go_sem, Int.reduceTMod, Int.reduceTDiv, Int.reduceDiv, Int.reduceMod, Int.reduceAdd, Int.reduceSub, Int.reduceMul, Int.reduceNeg, Int.reducePow, Int.reduceEq, ↓reduceIte, Nat.reduceEqDiff, Nat.reduceAdd, Nat.reduceMul, Nat.reduceLeDiff, Nat.reduceSub, Nat.reduceLT, Int.reduceToNat, Int.reduceLT, Int.reduceLE, reduceCtorEq]) b2 rfl (by omega) (by omega) (by simp only [go_sem, Int.reduceTMod, Int.reduceTDiv, Int.reduceDiv, Int.reduceMod, Int.reduceAdd, Int.reduceSub, Int.reduceMul, Int.reduceNeg, Int.reducePow, Int.reduceEq, ↓reduceIte, Nat.reduceEqDiff, Nat.reduceAdd, Nat.reduceMul, Nat.reduceLeDiff, Nat.reduceSub, Nat.reduceLT, Int.reduceToNat, Int.reduceLT, Int.reduceLE, reduceCtorEq]) o2 (by simp only [f12, go_sem, Int.reduceTMod, Int.reduceTDiv, Int.reduceDiv, Int.reduceMod, Int.reduceAdd, Int.reduceSub, Int.reduceMul, Int.reduceNeg, Int.reducePow, Int.reduceEq, ↓reduceIte, Nat.reduceEqDiff, Nat.reduceAdd, Nat.reduceMul, Nat.reduceLeDiff, Nat.reduceSub, Nat.reduceLT, Int.reduceToNat, Int.reduceLT, Int.reduceLE, reduceCtorEq]; exact (DX.of hO1).keep hn2 (fun id _ h => hM2 id h)) (by simp only [d13, go_sem, Int.reduceTMod, Int.reduceTDiv, Int.reduceDiv, Int.reduceMod, Int.reduceAdd, Int.reduceSub, Int.reduceMul, Int.reduceNeg, Int.reducePow, Int.reduceEq, ↓reduceIte, Nat.reduceEqDiff, Nat.reduceAdd, Nat.reduceMul, Nat.reduceLeDiff, Nat.reduceSub, Nat.reduceLT, Int.reduceToNat, Int.reduceLT, Int.reduceLE, reduceCtorEq]) (fun e3 M3 hM3 ho3 d3 => ?_)
    have t54 := (d3 54 (by omega)).trans (show _ = RI j by simp only [f54, go_sem, Int.reduceTMod, Int.reduceTDiv, Int.reduceDiv, Int.reduceMod, Int.reduceAdd, Int.reduceSub, Int.reduceMul, Int.reduceNeg, Int.reducePow, Int.reduceEq, ↓reduceIte, Nat.reduceEqDiff, Nat.reduceAdd, Nat.reduceMul, Nat.reduceLeDiff, Nat.reduceSub, Nat.reduceLT, Int.reduceToNat, Int.reduceLT, Int.reduceLE, reduceCtorEq])
    have t53 := (d3 53 (by omega)).trans (show _ = RI ((4 * H : Nat) : Int) by simp only [f53, go_sem, Int.reduceTMod, Int.reduceTDiv, Int.reduceDiv, Int.reduceMod, Int.reduceAdd, Int.reduceSub, Int.reduceMul, Int.reduceNeg, Int.reducePow, Int.reduceEq, ↓reduceIte, Nat.reduceEqDiff, Nat.reduceAdd, Nat.reduceMul, Nat.reduceLeDiff, Nat.reduceSub, Nat.reduceLT, Int.reduceToNat, Int.reduceLT, Int.reduceLE, reduceCtorEq])
    have t10 := (d3 10 (by omega)).trans (show _ = Reg.one (.sl (n + 1) 0 (W * H) (some (W * H)) 1) by simp only [f10, go_sem, Int.reduceTMod, Int.reduceTDiv, Int.reduceDiv, Int.reduceMod, Int.reduceAdd, Int.reduceSub, Int.reduceMul, Int.reduceNeg, Int.reducePow, Int.reduceEq, ↓reduceIte, Nat.reduceEqDiff, Nat.reduceAdd, Nat.reduceMul, Nat.reduceLeDiff, Nat.reduceSub, Nat.reduceLT, Int.reduceToNat, Int.reduceLT, Int.reduceLE, reduceCtorEq])
    have t9 := (d3 9 (by omega)).trans (show _ = RI W by simp only [f9, go_sem, Int.reduceTMod, Int.reduceTDiv, Int.reduceDiv, Int.reduceMod, Int.reduceAdd, Int.reduceSub, Int.reduceMul, Int.reduceNeg, Int.reducePow, Int.reduceEq, ↓reduceIte, Nat.reduceEqDiff, Nat.reduceAdd, Nat.reduceMul, Nat.reduceLeDiff, Nat.reduceSub, Nat.reduceLT, Int.reduceToNat, Int.reduceLT, Int.reduceLE, reduceCtorEq])
    have t5 := (d3 5 (by omega)).trans (show _ = Reg.one (.ptr n 0) by simp only [f5, go_sem, Int.reduceTMod, Int.reduceTDiv, Int.reduceDiv, Int.reduceMod, Int.reduceAdd, Int.reduceSub, Int.reduceMul, Int.reduceNeg, Int.reducePow, Int.reduceEq, ↓reduceIte, Nat.reduceEqDiff, Nat.reduceAdd, Nat.reduceMul, Nat.reduceLeDiff, Nat.reduceSub, Nat.reduceLT, Int.reduceToNat, Int.reduceLT, Int.reduceLE, reduceCtorEq])
    have t1 := (d3 1 (by omega)).trans (show _ = RI rule by simp only [f1, go_sem, Int.reduceTMod, Int.reduceTDiv, Int.reduceDiv, Int.reduceMod, Int.reduceAdd, Int.reduceSub, Int.reduceMul, Int.reduceNeg, Int.reducePow, Int.reduceEq, ↓reduceIte, Nat.reduceEqDiff, Nat.reduceAdd, Nat.reduceMul, Nat.reduceLeDiff, Nat.reduceSub, Nat.reduceLT, Int.reduceToNat, Int.reduceLT, Int.reduceLE, reduceCtorEq])
    have t0 := (d3 0 (by omega)).trans (show _ = r by simp only [f0, go_sem, Int.reduceTMod, Int.reduceTDiv, Int.reduceDiv, Int.reduceMod, Int.reduceAdd, Int.reduceSub, Int.reduceMul, Int.reduceNeg, Int.reducePow, Int.reduceEq, ↓reduceIte, Nat.reduceEqDiff, Nat.reduceAdd, Nat.reduceMul, Nat.reduceLeDiff, Nat.reduceSub, Nat.reduceLT, Int.reduceToNat, Int.reduceLT, Int.reduceLE, reduceCtorEq])
    have w5 : IntKind.i64.wrap ((j : Int) + 1) = ((j + 1 : Nat) : Int) := wr_nat (by omega)
    have hold : ∀ id, id < n → M3 id = m id := fun id hid => by rw [hM3 id (by omega), hM2 id (by omega), hf1 id (by omega)]; exact qm id hid
    try simp only [r12_0, r12_1, r12_2, r12_3, r12_4, r12_5, r12_6, r12_7, r12_8, r12_9, r12_10, r12_11, r12_12, r12_13, r12_14, r12_15, r12_16, r12_17, r12_18, r12_19, r12_20, r12_21, r12_22, r12_23, r12_24, r12_25, r12_26, r12_27, r12_28, c12, F12, t54, w5, go_sem, Int.reduceTMod, Int.reduceTDiv, Int.reduceDiv, Int.reduceMod, Int.reduceAdd, Int.reduceSub, Int.reduceMul, Int.reduceNeg, Int.reducePow, Int.reduceEq, ↓reduceIte, Nat.reduceEqDiff, Nat.reduceAdd, Nat.reduceMul, Nat.reduceLeDiff, Nat.reduceSub, Nat.reduceLT, Int.reduceToNat, Int.reduceLT, Int.reduceLE, reduceCtorEq]
    repeat' ((first | refine FK_split (fun h_ => ?_) (fun h_ => ?_) | refine GK_split (fun h_ => ?_) (fun h_ => ?_) | refine ite_both (fun h_ => ?_) (fun h_ => ?_)) <;> (try simp only [decide_eq_true_eq, decide_eq_false_iff_not, Bool.not_true, Bool.not_false, Bool.not_eq_true', Bool.not_eq_false', Bool.not_eq_eq_eq_not, Decidable.not_not] at h_) <;> (try simp only [r12_0, r12_1, r12_2, r12_3, r12_4, r12_5, r12_6, r12_7, r12_8, r12_9, r12_10, r12_11, r12_12, r12_13, r12_14, r12_15, r12_16, r12_17, r12_18, r12_19, r12_20, r12_21, r12_22, r12_23, r12_24, r12_25, r12_26, r12_27, r12_28, c12, F12, t54, w5, h_, go_sem, Int.reduceTMod, Int.reduceTDiv, Int.reduceDiv, Int.reduceMod, Int.reduceAdd, Int.reduceSub, Int.reduceMul, Int.reduceNeg, Int.reducePow, Int.reduceEq, ↓reduceIte, Nat.reduceEqDiff, Nat.reduceAdd, Nat.reduceMul, Nat.reduceLeDiff, Nat.reduceSub, Nat.reduceLT, Int.reduceToNat, Int.reduceLT, Int.reduceLE, reduceCtorEq]))
    refine next _ ⟨?_, ?_, ?_, ?_, ?_, ?_, ?_, ?_, hold, ?_, ?_⟩
    · simp only [go_sem, Int.reduceTMod, Int.reduceTDiv, Int.reduceDiv, Int.reduceMod, Int.reduceAdd, Int.reduceSub, Int.reduceMul, Int.reduceNeg, Int.reducePow, Int.reduceEq, ↓reduceIte, Nat.reduceEqDiff, Nat.reduceAdd, Nat.reduceMul, Nat.reduceLeDiff, Nat.reduceSub, Nat.reduceLT, Int.reduceToNat, Int.reduceLT, Int.reduceLE, reduceCtorEq]
    · simp only [t53, go_sem, Int.reduceTMod, Int.reduceTDiv, Int.reduceDiv, Int.reduceMod, Int.reduceAdd, Int.reduceSub, Int.reduceMul, Int.reduceNeg, Int.reducePow, Int.reduceEq, ↓reduceIte, Nat.reduceEqDiff, Nat.reduceAdd, Nat.reduceMul, Nat.reduceLeDiff, Nat.reduceSub, Nat.reduceLT, Int.reduceToNat, Int.reduceLT, Int.reduceLE, reduceCtorEq]
    · simp only [t10, go_sem, Int.reduceTMod, Int.reduceTDiv, Int.reduceDiv, Int.reduceMod, Int.reduceAdd, Int.reduceSub, Int.reduceMul, Int.reduceNeg, Int.reducePow, Int.reduceEq, ↓reduceIte, Nat.reduceEqDiff, Nat.reduceAdd, Nat.reduceMul, Nat.reduceLeDiff, Nat.reduceSub, Nat.reduceLT, Int.reduceToNat, Int.reduceLT, Int.reduceLE, reduceCtorEq]
    · simp only [t9, go_sem, Int.reduceTMod, Int.reduceTDiv, Int.reduceDiv, Int.reduceMod, Int.reduceAdd, Int.reduceSub, Int.reduceMul, Int.reduceNeg, Int.reducePow, Int.reduceEq, ↓reduceIte, Nat.reduceEqDiff, Nat.reduceAdd, Nat.reduceMul, Nat.reduceLeDiff, Nat.reduceSub, Nat.reduceLT, Int.reduceToNat, Int.reduceLT, Int.reduceLE, reduceCtorEq]
    · simp only [t5, go_sem, Int.reduceTMod, Int.reduceTDiv, Int.reduceDiv, Int.reduceMod, Int.reduceAdd, Int.reduceSub, Int.reduceMul, Int.reduceNeg, Int.reducePow, Int.reduceEq, ↓reduceIte, Nat.reduceEqDiff, Nat.reduceAdd, Nat.reduceMul, Nat.reduceLeDiff, Nat.reduceSub, Nat.reduceLT, Int.reduceToNat, Int.reduceLT, Int.reduceLE, reduceCtorEq]
    · simp only [t1, go_sem, Int.reduceTMod, Int.reduceTDiv, Int.reduceDiv, Int.reduceMod, Int.reduceAdd, Int.reduceSub, Int.reduceMul, Int.reduceNeg, Int.reducePow, Int.reduceEq, ↓reduceIte, Nat.reduceEqDiff, Nat.reduceAdd, Nat.reduceMul, Nat.reduceLeDiff, Nat.reduceSub, Nat.reduceLT, Int.reduceToNat, Int.reduceLT, Int.reduceLE, reduceCtorEq]
    · simp only [t0, go_sem, Int.reduceTMod, Int.reduceTDiv, Int.reduceDiv, Int.reduceMod, Int.reduceAdd, Int.reduceSub, Int.reduceMul, Int.reduceNeg, Int.reducePow, Int.reduceEq, ↓reduceIte, Nat.reduceEqDiff, Nat.reduceAdd, Nat.reduceMul, Nat.reduceLeDiff, Nat.reduceSub, Nat.reduceLT, Int.reduceToNat, Int.reduceLT, Int.reduceLE, reduceCtorEq]
    · simp only; omega
    · simp only
      rw [hM3 n (by omega)]
      exact b2
    · exact ho3
  · obtain ⟨e, M, N⟩ := s
    obtain ⟨q54, q53, q10, q9, q5, q1, q0, qn, qm, qb, qo⟩ := hs
    simp only at q54 q53 q10 q9 q5 q1 q0 qn qm qb qo
    have c2 : (((4 * H : Nat) : Int) < ((4 * H : Nat) : Int)) = False := eq_false (by omega)
    try simp only [r12_0, r12_1, r12_2, r12_3, r12_4, r12_5, r12_6, r12_7, r12_8, r12_9, r12_10, r12_11, r12_12, r12_13, r12_14, r12_15, r12_16, r12_17, r12_18, r12_19, r12_20, r12_21, r12_22, r12_23, r12_24, r12_25, r12_26, r12_27, r12_28, c12, F12, l12_3, q54, q53, c2, go_sem, Int.reduceTMod, Int.reduceTDiv, Int.reduceDiv, Int.reduceMod, Int.reduceAdd, Int.reduceSub, Int.reduceMul, Int.reduceNeg, Int.reducePow, Int.reduceEq, ↓reduceIte, Nat.reduceEqDiff, Nat.reduceAdd, Nat.reduceMul, Nat.reduceLeDiff, Nat.reduceSub, Nat.reduceLT, Int.reduceToNat, Int.reduceLT, Int.reduceLE, reduceCtorEq]
    repeat' ((first | refine FK_split (fun h_ => ?_) (fun h_ => ?_) | refine GK_split (fun h_ => ?_) (fun h_ => ?_) | refine ite_both (fun h_ => ?_) (fun h_ => ?_)) <;> (try simp only [decide_eq_true_eq, decide_eq_false_iff_not, Bool.not_true, Bool.not_false, Bool.not_eq_true', Bool.not_eq_false', Bool.not_eq_eq_eq_not, Decidable.not_not] at h_) <;> (try simp only [r12_0, r12_1, r12_2, r12_3, r12_4, r12_5, r12_6, r12_7, r12_8, r12_9, r12_10, r12_11, r12_12, r12_13, r12_14, r12_15, r12_16, r12_17, r12_18, r12_19, r12_20, r12_21, r12_22, r12_23, r12_24, r12_25, r12_26, r12_27, r12_28, c12, F12, l12_3, q54, q53, c2, h_, go_sem, Int.reduceTMod, Int.reduceTDiv, Int.reduceDiv, Int.reduceMod, Int.reduceAdd, Int.reduceSub, Int.reduceMul, Int.reduceNeg, Int.reducePow, Int.reduceEq, ↓reduceIte, Nat.reduceEqDiff, Nat.reduceAdd, Nat.reduceMul, Nat.reduceLeDiff, Nat.reduceSub, Nat.reduceLT, Int.reduceToNat, Int.reduceLT, Int.reduceLE, reduceCtorEq]))
    exact hend _ _ _ qn qm qo q10
theorem inLL_each {L : List (List Pt)} (h : inLL L = true) : ∀ l ∈ L, l.all inP = true := fun l hl => List.all_eq_true.1 h l hl
theorem w_Mask (r : Reg) (L : List (List Pt)) (rule x0 y0 : Int) (W H : Nat) (m : Mem) (n : Nat) (hr : RPP m n r L) (hn60 : L.length ≤ 60) (hL : ∀ l ∈ L, l.length ≤ 20) (hi : inLL L = true) (hrule : rule = 1 ∨ rule = 2) (hw : winP x0 y0 (x0 + W) (y0 + H)) :
    Fn TA 12 [r, RI rule, .agg [I x0, I y0, I (x0 + W), I (y0 + H)]] m n (fun r' m' n' => n + 2 ≤ n' ∧ r' = .tup [.one (.sl (n + 1) 0 (W * H) (some (W * H)) 1), RI 0] ∧ m' (n + 1) = some ⟨maskC (cJ (insM L rule x0 y0) W (4 * H)) (W * H), true⟩ ∧ ∀ id, id < n → m' id = m id) := by
  refine Fn_ofK (fn := F12) rfl (by simp [F12]) ?_
  have vR := v_right x0 y0 (x0 + W) (y0 + H)
  rw [decide_eq_true hw] at vR
  obtain ⟨M1, hM1⟩ : ∃ M1, M1 = upd m n (some ⟨[I x0, I y0, I (x0 + W), I (y0 + H)], true⟩) := ⟨_, rfl⟩
  have hr1 : RPP M1 (n + 1) r L := hr.keep (by omega) (fun id hid => by rw [hM1, upd_ne _ _ (by omega)])
  have vC := v_Cont2 r L (frz M1) (n + 1) hr1.frz hn60 hL
  rw [hi, hM1] at vC
  unfold winP at hw
  have hWH : W * H ≤ 65536 := Nat.mul_le_mul (show W ≤ 256 by omega) (show H ≤ 256 by omega)
  have w1 : IntKind.i64.wrap (x0 + (W : Int) - x0) = (W : Int) := (wr_eq (by omega) (by omega)).trans (by omega)
  have w2 : IntKind.i64.wrap (y0 + (H : Int) - y0) = (H : Int) := (wr_eq (by omega) (by omega)).trans (by omega)
  have w3 : IntKind.i64.wrap ((W : Int) * (H : Int)) = ((W * H : Nat) : Int) := by rw [← Int.natCast_mul]; exact wr_eq (by omega) (by omega)
  have w4 : IntKind.i64.wrap ((H : Int) * 4) = ((4 * H : Nat) : Int) := (wr_eq (by omega) (by omega)).trans (by omega)
  have g1 : (0 ≤ ((W * H : Nat) : Int)) = True := eq_true (by omega)
  have g2 : (((W * H : Nat) : Int) ≤ 4294967296) = True := eq_true (by omega)
  rcases hrule with rfl | rfl
  all_goals
    try simp only [r12_0, r12_1, r12_2, r12_3, r12_4, r12_5, r12_6, r12_7, r12_8, r12_9, r12_10, r12_11, r12_12, r12_13, r12_14, r12_15, r12_16, r12_17, r12_18, r12_19, r12_20, r12_21, r12_22, r12_23, r12_24, r12_25, r12_26, r12_27, r12_28, c12, F12, vR, vC, w1, w2, w3, w4, g1, g2, Int.toNat_natCast, rep1, Int.le_refl, go_sem, Int.reduceTMod, Int.reduceTDiv, Int.reduceDiv, Int.reduceMod, Int.reduceAdd, Int.reduceSub, Int.reduceMul, Int.reduceNeg, Int.reducePow, Int.reduceEq, ↓reduceIte, Nat.reduceEqDiff, Nat.reduceAdd, Nat.reduceMul, Nat.reduceLeDiff, Nat.reduceSub, Nat.reduceLT, Int.reduceToNat, Int.reduceLT, Int.reduceLE, reduceCtorEq]
    repeat' ((first | refine FK_split (fun h_ => ?_) (fun h_ => ?_) | refine GK_split (fun h_ => ?_) (fun h_ => ?_) | refine ite_both (fun h_ => ?_) (fun h_ => ?_)) <;> (try simp only [decide_eq_true_eq, decide_eq_false_iff_not, Bool.not_true, Bool.not_false, Bool.not_eq_true', Bool.not_eq_false', Bool.not_eq_eq_eq_not, Decidable.not_not] at h_) <;> (try simp only [r12_0, r12_1, r12_2, r12_3, r12_4, r12_5, r12_6, r12_7, r12_8, r12_9, r12_10, r12_11, r12_12, r12_13, r12_14, r12_15, r12_16, r12_17, r12_18, r12_19, r12_20, r12_21, r12_22, r12_23, r12_24, r12_25, r12_26, r12_27, r12_28, c12, F12, vR, vC, w1, w2, w3, w4, g1, g2, Int.toNat_natCast, rep1, Int.le_refl, h_, go_sem, Int.reduceTMod, Int.reduceTDiv, Int.reduceDiv, Int.reduceMod, Int.reduceAdd, Int.reduceSub, Int.reduceMul, Int.reduceNeg, Int.reducePow, Int.reduceEq, ↓reduceIte, Nat.reduceEqDiff, Nat.reduceAdd, Nat.reduceMul, Nat.reduceLeDiff, Nat.reduceSub, Nat.reduceLT, Int.reduceToNat, Int.reduceLT, Int.reduceLE, reduceCtorEq]))
    refine rows_loop (r := r) (L := L) (x0 := x0) (y0 := y0) (W := W) (H := H) (m := m) (n := n) hr hn60 hL (inLL_each hi) (by omega) (by omega) (by omega) (by omega) (by simp only [go_sem, Int.reduceTMod, Int.reduceTDiv, Int.reduceDiv, Int.reduceMod, Int.reduceAdd, Int.reduceSub, Int.reduceMul, Int.reduceNeg, Int.reducePow, Int.reduceEq, ↓reduceIte, Nat.reduceEqDiff, Nat.reduceAdd, Nat.reduceMul, Nat.reduceLeDiff, Nat.reduceSub, Nat.reduceLT, Int.reduceToNat, Int.reduceLT, Int.reduceLE, reduceCtorEq]) (by simp only [go_sem, Int.reduceTMod, Int.reduceTDiv, Int.reduceDiv, Int.reduceMod, Int.reduceAdd, Int.reduceSub, Int.reduceMul, Int.reduceNeg, Int.reducePow, Int.reduceEq, ↓reduceIte, Nat.reduceEqDiff, Nat.reduceAdd, Nat.reduceMul, Nat.reduceLeDiff, Nat.reduceSub, Nat.reduceLT, Int.reduceToNat, Int.reduceLT, Int.reduceLE, reduceCtorEq]; rfl) (by simp only [go_sem, Int.reduceTMod, Int.reduceTDiv, Int.reduceDiv, Int.reduceMod, Int.reduceAdd, Int.reduceSub, Int.reduceMul, Int.reduceNeg, Int.reducePow, Int.reduceEq, ↓reduceIte, Nat.reduceEqDiff, Nat.reduceAdd, Nat.reduceMul, Nat.reduceLeDiff, Nat.reduceSub, Nat.reduceLT, Int.reduceToNat, Int.reduceLT, Int.reduceLE, reduceCtorEq]) (by simp only [go_sem, Int.reduceTMod, Int.reduceTDiv, Int.reduceDiv, Int.reduceMod, Int.reduceAdd, Int.reduceSub, Int.reduceMul, Int.reduceNeg, Int.reducePow, Int.reduceEq, ↓reduceIte, Nat.reduceEqDiff, Nat.reduceAdd, Nat.reduceMul, Nat.reduceLeDiff, Nat.reduceSub, Nat.reduceLT, Int.reduceToNat, Int.reduceLT, Int.reduceLE, reduceCtorEq]) (by simp only [go_sem, Int.reduceTMod, Int.reduceTDiv, Int.reduceDiv, Int.reduceMod, Int.reduceAdd, Int.reduceSub, Int.reduceMul, Int.reduceNeg, Int.reducePow, Int.reduceEq, ↓reduceIte, Nat.reduceEqDiff, Nat.reduceAdd, Nat.reduceMul, Nat.reduceLeDiff, Nat.reduceSub, Nat.reduceLT, Int.reduceToNat, Int.reduceLT, Int.reduceLE, reduceCtorEq]) (by simp only [go_sem, Int.reduceTMod, Int.reduceTDiv, Int.reduceDiv, Int.reduceMod, Int.reduceAdd, Int.reduceSub, Int.reduceMul, Int.reduceNeg, Int.reducePow, Int.reduceEq, ↓reduceIte, Nat.reduceEqDiff, Nat.reduceAdd, Nat.reduceMul, Nat.reduceLeDiff, Nat.reduceSub, Nat.reduceLT, Int.reduceToNat, Int.reduceLT, Int.reduceLE, reduceCtorEq]) (by simp only [go_sem, Int.reduceTMod, Int.reduceTDiv, Int.reduceDiv, Int.reduceMod, Int.reduceAdd, Int.reduceSub, Int.reduceMul, Int.reduceNeg, Int.reducePow, Int.reduceEq, ↓reduceIte, Nat.reduceEqDiff, Nat.reduceAdd, Nat.reduceMul, Nat.reduceLeDiff, Nat.reduceSub, Nat.reduceLT, Int.reduceToNat, Int.reduceLT, Int.reduceLE, reduceCtorEq]) (Nat.le_refl _)
      (fun id hid => by simp only [na_0 hid, na_0 (show id < n + 1 by omega), go_sem, Int.reduceTMod, Int.reduceTDiv, Int.reduceDiv, Int.reduceMod, Int.reduceAdd, Int.reduceSub, Int.reduceMul, Int.reduceNeg, Int.reducePow, Int.reduceEq, ↓reduceIte, Nat.reduceEqDiff, Nat.reduceAdd, Nat.reduceMul, Nat.reduceLeDiff, Nat.reduceSub, Nat.reduceLT, Int.reduceToNat, Int.reduceLT, Int.reduceLE, reduceCtorEq]) (by simp only [go_sem, Int.reduceTMod, Int.reduceTDiv, Int.reduceDiv, Int.reduceMod, Int.reduceAdd, Int.reduceSub, Int.reduceMul, Int.reduceNeg, Int.reducePow, Int.reduceEq, ↓reduceIte, Nat.reduceEqDiff, Nat.reduceAdd, Nat.reduceMul, Nat.reduceLeDiff, Nat.reduceSub, Nat.reduceLT, Int.reduceToNat, Int.reduceLT, Int.reduceLE, reduceCtorEq]) (by simp only [maskC_zero, go_sem, Int.reduceTMod, Int.reduceTDiv, Int.reduceDiv, Int.reduceMod, Int.reduceAdd, Int.reduceSub, Int.reduceMul, Int.reduceNeg, Int.reducePow, Int.reduceEq, ↓reduceIte, Nat.reduceEqDiff, Nat.reduceAdd, Nat.reduceMul, Nat.reduceLeDiff, Nat.reduceSub, Nat.reduceLT, Int.reduceToNat, Int.reduceLT, Int.reduceLE, reduceCtorEq]) (fun e M' N' hN' hM' ho' h10 => ?_)
    try simp only [r12_0, r12_1, r12_2, r12_3, r12_4, r12_5, r12_6, r12_7, r12_8, r12_9, r12_10, r12_11, r12_12, r12_13, r12_14, r12_15, r12_16, r12_17, r12_18, r12_19, r12_20, r12_21, r12_22, r12_23, r12_24, r12_25, r12_26, r12_27, r12_28, c12, F12, h10, go_sem, Int.reduceTMod, Int.reduceTDiv, Int.reduceDiv, Int.reduceMod, Int.reduceAdd, Int.reduceSub, Int.reduceMul, Int.reduceNeg, Int.reducePow, Int.reduceEq, ↓reduceIte, Nat.reduceEqDiff, Nat.reduceAdd, Nat.reduceMul, Nat.reduceLeDiff, Nat.reduceSub, Nat.reduceLT, Int.reduceToNat, Int.reduceLT, Int.reduceLE, reduceCtorEq]
    repeat' ((first | refine FK_split (fun h_ => ?_) (fun h_ => ?_) | refine GK_split (fun h_ => ?_) (fun h_ => ?_) | refine ite_both (fun h_ => ?_) (fun h_ => ?_)) <;> (try simp only [decide_eq_true_eq, decide_eq_false_iff_not, Bool.not_true, Bool.not_false, Bool.not_eq_true', Bool.not_eq_false', Bool.not_eq_eq_eq_not, Decidable.not_not] at h_) <;> (try simp only [r12_0, r12_1, r12_2, r12_3, r12_4, r12_5, r12_6, r12_7, r12_8, r12_9, r12_10, r12_11, r12_12, r12_13, r12_14, r12_15, r12_16, r12_17, r12_18, r12_19, r12_20, r12_21, r12_22, r12_23, r12_24, r12_25, r12_26, r12_27, r12_28, c12, F12, h10, h_, go_sem, Int.reduceTMod, Int.reduceTDiv, Int.reduceDiv, Int.reduceMod, Int.reduceAdd, Int.reduceSub, Int.reduceMul, Int.reduceNeg, Int.reducePow, Int.reduceEq, ↓reduceIte, Nat.reduceEqDiff, Nat.reduceAdd, Nat.reduceMul, Nat.reduceLeDiff, Nat.reduceSub, Nat.reduceLT, Int.reduceToNat, Int.reduceLT, Int.reduceLE, reduceCtorEq]))
    exact ⟨hN', ho', hM'⟩
/-- What is refused. -/
theorem w_MaskBad (r : Reg) (L : List (List Pt)) (rule x0 y0 x1 y1 : Int) (m : Mem) (n : Nat) (hr : RPP m n r L) (hn60 : L.length ≤ 60) (hL : ∀ l ∈ L, l.length ≤ 20) (hbad : ¬ ((rule = 1 ∨ rule = 2) ∧ winP x0 y0 x1 y1 ∧ inLL L = true)) :
    Fn TA 12 [r, RI rule, .agg [I x0, I y0, I x1, I y1]] m n (fun r' m' n' => n ≤ n' ∧ r' = .tup [rnil, RI 30] ∧ ∀ id, id < n → m' id = m id) := by
  refine Fn_ofK (fn := F12) rfl (by simp [F12]) ?_
  have vR := v_right x0 y0 x1 y1
  obtain ⟨M1, hM1⟩ : ∃ M1, M1 = upd m n (some ⟨[I x0, I y0, I x1, I y1], true⟩) := ⟨_, rfl⟩
  have hr1 : RPP M1 (n + 1) r L := hr.keep (by omega) (fun id hid => by rw [hM1, upd_ne _ _ (by omega)])
  have vC := v_Cont2 r L (frz M1) (n + 1) hr1.frz hn60 hL
  rw [hM1] at vC
  have hfr : ∀ id, id < n → upd m n (some ⟨[I x0, I y0, I x1, I y1], true⟩) id = m id := fun id hid => upd_ne _ _ (by omega)
  by_cases hru : rule = 1 ∨ rule = 2
  · by_cases hw : winP x0 y0 x1 y1
    · have hi : inLL L = false := by
        cases h : inLL L with
        | false => rfl
        | true => exact absurd ⟨hru, hw, h⟩ hbad
      rw [hi] at vC
      rw [decide_eq_true hw] at vR
      rcases hru with rfl | rfl
      all_goals
        try simp only [r12_0, r12_1, r12_2, r12_3, r12_4, r12_5, r12_6, r12_7, r12_8, r12_9, r12_10, r12_11, r12_12, r12_13, r12_14, r12_15, r12_16, r12_17, r12_18, r12_19, r12_20, r12_21, r12_22, r12_23, r12_24, r12_25, r12_26, r12_27, r12_28, c12, F12, vR, vC, go_sem, Int.reduceTMod, Int.reduceTDiv, Int.reduceDiv, Int.reduceMod, Int.reduceAdd, Int.reduceSub, Int.reduceMul, Int.reduceNeg, Int.reducePow, Int.reduceEq, ↓reduceIte, Nat.reduceEqDiff, Nat.reduceAdd, Nat.reduceMul, Nat.reduceLeDiff, Nat.reduceSub, Nat.reduceLT, Int.reduceToNat, Int.reduceLT, Int.reduceLE, reduceCtorEq]
        repeat' ((first | refine FK_split (fun h_ => ?_) (fun h_ => ?_) | refine GK_split (fun h_ => ?_) (fun h_ => ?_) | refine ite_both (fun h_ => ?_) (fun h_ => ?_)) <;> (try simp only [decide_eq_true_eq, decide_eq_false_iff_not, Bool.not_true, Bool.not_false, Bool.not_eq_true', Bool.not_eq_false', Bool.not_eq_eq_eq_not, Decidable.not_not] at h_) <;> (try simp only [r12_0, r12_1, r12_2, r12_3, r12_4, r12_5, r12_6, r12_7, r12_8, r12_9, r12_10, r12_11, r12_12, r12_13, r12_14, r12_15, r12_16, r12_17, r12_18, r12_19, r12_20, r12_21, r12_22, r12_23, r12_24, r12_25, r12_26, r12_27, r12_28, c12, F12, vR, vC, h_, go_sem, Int.reduceTMod, Int.reduceTDiv, Int.reduceDiv, Int.reduceMod, Int.reduceAdd, Int.reduceSub, Int.reduceMul, Int.reduceNeg, Int.reducePow, Int.reduceEq, ↓reduceIte, Nat.reduceEqDiff, Nat.reduceAdd, Nat.reduceMul, Nat.reduceLeDiff, Nat.reduceSub, Nat.reduceLT, Int.reduceToNat, Int.reduceLT, Int.reduceLE, reduceCtorEq]))
        exact ⟨by omega, hfr⟩
    · rw [decide_eq_false hw] at vR
      rcases hru with rfl | rfl
      all_goals
        try simp only [r12_0, r12_1, r12_2, r12_3, r12_4, r12_5, r12_6, r12_7, r12_8, r12_9, r12_10, r12_11, r12_12, r12_13, r12_14, r12_15, r12_16, r12_17, r12_18, r12_19, r12_20, r12_21, r12_22, r12_23, r12_24, r12_25, r12_26, r12_27, r12_28, c12, F12, vR, go_sem, Int.reduceTMod, Int.reduceTDiv, Int.reduceDiv, Int.reduceMod, Int.reduceAdd, Int.reduceSub, Int.reduceMul, Int.reduceNeg, Int.reducePow, Int.reduceEq, ↓reduceIte, Nat.reduceEqDiff, Nat.reduceAdd, Nat.reduceMul, Nat.reduceLeDiff, Nat.reduceSub, Nat.reduceLT, Int.reduceToNat, Int.reduceLT, Int.reduceLE, reduceCtorEq]
        repeat' ((first | refine FK_split (fun h_ => ?_) (fun h_ => ?_) | refine GK_split (fun h_ => ?_) (fun h_ => ?_) | refine ite_both (fun h_ => ?_) (fun h_ => ?_)) <;> (try simp only [decide_eq_true_eq, decide_eq_false_iff_not, Bool.not_true, Bool.not_false, Bool.not_eq_true', Bool.not_eq_false', Bool.not_eq_eq_eq_not, Decidable.not_not] at h_) <;> (try simp only [r12_0, r12_1, r12_2, r12_3, r12_4, r12_5, r12_6, r12_7, r12_8, r12_9, r12_10, r12_11, r12_12, r12_13, r12_14, r12_15, r12_16, r12_17, r12_18, r12_19, r12_20, r12_21, r12_22, r12_23, r12_24, r12_25, r12_26, r12_27, r12_28, c12, F12, vR, h_, go_sem, Int.reduceTMod, Int.reduceTDiv, Int.reduceDiv, Int.reduceMod, Int.reduceAdd, Int.reduceSub, Int.reduceMul, Int.reduceNeg, Int.reducePow, Int.reduceEq, ↓reduceIte, Nat.reduceEqDiff, Nat.reduceAdd, Nat.reduceMul, Nat.reduceLeDiff, Nat.reduceSub, Nat.reduceLT, Int.reduceToNat, Int.reduceLT, Int.reduceLE, reduceCtorEq]))
        exact ⟨by omega, hfr⟩
  · have r1 : ¬ rule = 1 := fun h => hru (Or.inl h)
    have r2 : ¬ rule = 2 := fun h => hru (Or.inr h)
    try simp only [r12_0, r12_1, r12_2, r12_3, r12_4, r12_5, r12_6, r12_7, r12_8, r12_9, r12_10, r12_11, r12_12, r12_13, r12_14, r12_15, r12_16, r12_17, r12_18, r12_19, r12_20, r12_21, r12_22, r12_23, r12_24, r12_25, r12_26, r12_27, r12_28, c12, F12, r1, r2, go_sem, Int.reduceTMod, Int.reduceTDiv, Int.reduceDiv, Int.reduceMod, Int.reduceAdd, Int.reduceSub, Int.reduceMul, Int.reduceNeg, Int.reducePow, Int.reduceEq, ↓reduceIte, Nat.reduceEqDiff, Nat.reduceAdd, Nat.reduceMul, Nat.reduceLeDiff, Nat.reduceSub, Nat.reduceLT, Int.reduceToNat, Int.reduceLT, Int.reduceLE, reduceCtorEq]
    repeat' ((first | refine FK_split (fun h_ => ?_) (fun h_ => ?_) | refine GK_split (fun h_ => ?_) (fun h_ => ?_) | refine ite_both (fun h_ => ?_) (fun h_ => ?_)) <;> (try simp only [decide_eq_true_eq, decide_eq_false_iff_not, Bool.not_true, Bool.not_false, Bool.not_eq_true', Bool.not_eq_false', Bool.not_eq_eq_eq_not, Decidable.not_not] at h_) <;> (try simp only [r12_0, r12_1, r12_2, r12_3, r12_4, r12_5, r12_6, r12_7, r12_8, r12_9, r12_10, r12_11, r12_12, r12_13, r12_14, r12_15, r12_16, r12_17, r12_18, r12_19, r12_20, r12_21, r12_22, r12_23, r12_24, r12_25, r12_26, r12_27, r12_28, c12, F12, r1, r2, h_, go_sem, Int.reduceTMod, Int.reduceTDiv, Int.reduceDiv, Int.reduceMod, Int.reduceAdd, Int.reduceSub, Int.reduceMul, Int.reduceNeg, Int.reducePow, Int.reduceEq, ↓reduceIte, Nat.reduceEqDiff, Nat.reduceAdd, Nat.reduceMul, Nat.reduceLeDiff, Nat.reduceSub, Nat.reduceLT, Int.reduceToNat, Int.reduceLT, Int.reduceLE, reduceCtorEq]))
    exact ⟨by omega, hfr⟩

/- How much of a pixel is covered: the reference's count; the sum of a mask; walked. Conditions: those that each theorem names. -/
open Go Go.Proofs
set_option linter.unusedSimpArgs false
set_option linter.unusedVariables false

theorem RPs.keep {m m' : Mem} {n n' : Nat} {r : Reg} {L : List (List Pt)} (h : RPs m n r L) (hn : n ≤ n') (hm : ∀ id, id < n → m' id = m id) : RPs m' n' r L := by
  obtain ⟨cs, h1, h2, h3⟩ := h
  exact ⟨cs, h1, h2.keep hn hm, fun i c l hc hl => (h3 i c l hc hl).keep hn hm⟩
theorem RPs.hp {m : Mem} {n : Nat} {r : Reg} {L : List (List Pt)} (h : RPs m n r L) : ∀ (i : Nat) (id off : Nat) (cap : Option Nat) (b : Blk) (c : Cell) (l : List Pt), r = .one (.sl id off L.length cap 1) → m id = some b → b.cells[off + i]? = some c → L[i]? = some l → RPt m n (.one c) l :=
  fun i id off cap b c l e1 e2 e3 e4 => by
    obtain ⟨id', off', cap', b', c', f1, f2, f3, f4, f5⟩ := h.at e4
    rw [e1] at f1
    injection f1 with f1
    injection f1 with g1 g2 g3 g4
    subst g1
    subst g2
    rw [e2] at f3
    cases f3
    rw [e3] at f4
    cases f4
    exact f5
/-- The samples of a pixel, by its place. -/
def cntK (L : List (List Pt)) (rule x y : Int) : Nat → Int
  | 0 => 0
  | k + 1 => cntK L rule x y k + b01 (inV rule (wSum L ⟨256 * x + 32 + 64 * (k % 4 : Nat), 256 * y + 32 + 64 * (k / 4 : Nat)⟩ L.length))
theorem cntK_bd (L : List (List Pt)) (rule x y : Int) : ∀ k : Nat, 0 ≤ cntK L rule x y k ∧ cntK L rule x y k ≤ k
  | 0 => by simp [cntK]
  | k + 1 => by
    have h := cntK_bd L rule x y k
    have h2 := b01_bd (inV rule (wSum L ⟨256 * x + 32 + 64 * (k % 4 : Nat), 256 * y + 32 + 64 * (k / 4 : Nat)⟩ L.length))
    rw [cntK]
    omega
theorem cntK_pix (L : List (List Pt)) (rule x0 y0 : Int) (r c : Nat) : ∀ k : Nat, pixK (insM L rule x0 y0) r c k = cntK L rule (x0 + c) (y0 + r) k
  | 0 => rfl
  | k + 1 => by
    rw [pixK, cntK, cntK_pix L rule x0 y0 r c k, insM]
    have e1 : x0 * 256 + 32 + ((4 * c + k % 4 : Nat) : Int) * 64 = 256 * (x0 + c) + 32 + 64 * (k % 4 : Nat) := by omega
    have e2 : y0 * 256 + 32 + ((4 * r + k / 4 : Nat) : Int) * 64 = 256 * (y0 + r) + 32 + 64 * (k / 4 : Nat) := by omega
    rw [e1, e2]
theorem tmod4 (i : Nat) : (i : Int).tmod 4 = ((i % 4 : Nat) : Int) := (Int.ofNat_tmod i 4).symm
theorem v_Count (r : Reg) (L : List (List Pt)) (rule x y : Int) (m : Mem) (n : Nat) (hr : RPs m n r L) (hn : L.length ≤ 60) (hL : ∀ l ∈ L, l.length ≤ 20) (hi : ∀ l ∈ L, l.all inP = true) (hx : -4194304 ≤ x ∧ x ≤ 4194304) (hy : -4194304 ≤ y ∧ y ≤ 4194304) :
    callF TA 16 [r, RI rule, RI x, RI y] m n = some (RI (cntK L rule x y 16)) := by
  refine callF_of (Fn_ofK (fn := F16) rfl (by simp [F16]) ?_)
  try simp only [r16_0, r16_1, r16_2, r16_3, r16_5, r16_6, r16_7, r16_4, r16_8, c16, F16, go_sem, Int.reduceTMod, Int.reduceTDiv, Int.reduceDiv, Int.reduceMod, Int.reduceAdd, Int.reduceSub, Int.reduceMul, Int.reduceNeg, Int.reducePow, Int.reduceEq, ↓reduceIte, Nat.reduceEqDiff, Nat.reduceAdd, Nat.reduceMul, Nat.reduceLeDiff, Nat.reduceSub, Nat.reduceLT, Int.reduceToNat, Int.reduceLT, Int.reduceLE, reduceCtorEq]
  repeat' ((first | refine FK_split (fun h_ => ?_) (fun h_ => ?_) | refine GK_split (fun h_ => ?_) (fun h_ => ?_) | refine ite_both (fun h_ => ?_) (fun h_ => ?_)) <;> (try simp only [decide_eq_true_eq, decide_eq_false_iff_not, Bool.not_true, Bool.not_false, Bool.not_eq_true', Bool.not_eq_false', Bool.not_eq_eq_eq_not, Decidable.not_not] at h_) <;> (try simp only [r16_0, r16_1, r16_2, r16_3, r16_5, r16_6, r16_7, r16_4, r16_8, c16, F16, h_, go_sem, Int.reduceTMod, Int.reduceTDiv, Int.reduceDiv, Int.reduceMod, Int.reduceAdd, Int.reduceSub, Int.reduceMul, Int.reduceNeg, Int.reducePow, Int.reduceEq, ↓reduceIte, Nat.reduceEqDiff, Nat.reduceAdd, Nat.reduceMul, Nat.reduceLeDiff, Nat.reduceSub, Nat.reduceLT, Int.reduceToNat, Int.reduceLT, Int.reduceLE, reduceCtorEq]))
  refine XK_iter (inv := fun k s => s.e 10 = RI k ∧ s.e 9 = RI (cntK L rule x y k) ∧ s.e 0 = r ∧ s.e 1 = RI rule ∧ s.e 2 = RI x ∧ s.e 3 = RI y ∧ n ≤ s.n ∧ ∀ id, id < n → s.m id = m id) 16
    (fun B _ => ⟨fun k hk s hs next => ?_, fun s hs => ?_⟩) 0 (by omega) _ ⟨?_, ?_, ?_, ?_, ?_, ?_, Nat.le_refl _, fun _ _ => rfl⟩
  · obtain ⟨e, M, N⟩ := s
    obtain ⟨q10, q9, q0, q1, q2, q3, qn, qm⟩ := hs
    simp only at q10 q9 q0 q1 q2 q3 qn qm
    have hbd := cntK_bd L rule x y k
    have hst : cntK L rule x y (k + 1) = cntK L rule x y k + b01 (inV rule (wSum L ⟨256 * x + 32 + 64 * (k % 4 : Nat), 256 * y + 32 + 64 * (k / 4 : Nat)⟩ L.length)) := rfl
    have hkm : k % 4 < 4 := Nat.mod_lt _ (by omega)
    have hkd : k / 4 < 4 := by omega
    have p1 : IntKind.i64.wrap (256 * x) = 256 * x := wr_eq (by omega) (by omega)
    have p2 : IntKind.i64.wrap (256 * x + 32) = 256 * x + 32 := wr_eq (by omega) (by omega)
    have p3 : IntKind.i64.wrap (64 * ((k % 4 : Nat) : Int)) = 64 * ((k % 4 : Nat) : Int) := wr_eq (by omega) (by omega)
    have p5 : IntKind.i64.wrap (256 * y) = 256 * y := wr_eq (by omega) (by omega)
    have p6 : IntKind.i64.wrap (256 * y + 32) = 256 * y + 32 := wr_eq (by omega) (by omega)
    have p7 : IntKind.i64.wrap (64 * ((k / 4 : Nat) : Int)) = 64 * ((k / 4 : Nat) : Int) := wr_eq (by omega) (by omega)
    have p9 : IntKind.i64.wrap ((k % 4 : Nat) : Int) = ((k % 4 : Nat) : Int) := wr_eq (by omega) (by omega)
    have p10 : IntKind.i64.wrap ((k / 4 : Nat) : Int) = ((k / 4 : Nat) : Int) := wr_eq (by omega) (by omega)
    have p11 : IntKind.i64.wrap ((k : Int) + 1) = ((k + 1 : Nat) : Int) := wr_nat (by omega)
    have c2 : ((k : Int) < 16) = True := eq_true (by omega)
    obtain ⟨X, hX⟩ : ∃ X, X = 256 * x + 32 + 64 * ((k % 4 : Nat) : Int) := ⟨_, rfl⟩
    obtain ⟨Y, hY⟩ : ∃ Y, Y = 256 * y + 32 + 64 * ((k / 4 : Nat) : Int) := ⟨_, rfl⟩
    rw [← hX, ← hY] at hst
    have p4 : IntKind.i64.wrap (256 * x + 32 + 64 * ((k % 4 : Nat) : Int)) = X := (wr_eq (by omega) (by omega)).trans hX.symm
    have p8 : IntKind.i64.wrap (256 * y + 32 + 64 * ((k / 4 : Nat) : Int)) = Y := (wr_eq (by omega) (by omega)).trans hY.symm
    obtain ⟨M1, hM1⟩ : ∃ M1, M1 = upd (upd M N (some ⟨[I 0, I 0], true⟩)) N (some ⟨[I X, I Y], true⟩) := ⟨_, rfl⟩
    have hrM : RPs M1 (N + 1) r L := hr.keep (by omega) (fun id hid => by rw [hM1, upd_ne _ _ (by omega), upd_ne _ _ (by omega)]; exact qm id hid)
    have vI := v_rInside r L rule ⟨X, Y⟩ (frz M1) (N + 1) hrM.frz.pp hrM.frz.hp hn hL hi (by simp only [inP, Bool.and_eq_true, rm_iff]; omega)
    rw [hM1] at vI
    simp only at vI
    generalize inV rule (wSum L ⟨X, Y⟩ L.length) = bb at *
    cases bb with
    | false =>
      have p12 : cntK L rule x y (k + 1) = cntK L rule x y k := by rw [hst]; simp [b01]
      try simp only [r16_0, r16_1, r16_2, r16_3, r16_5, r16_6, r16_7, r16_4, r16_8, c16, F16, l16_0, q10, q9, q0, q1, q2, q3, tmod4, tdiv4, p1, p2, p3, p4, p5, p6, p7, p8, p9, p10, p11, c2, vI, go_sem, Int.reduceTMod, Int.reduceTDiv, Int.reduceDiv, Int.reduceMod, Int.reduceAdd, Int.reduceSub, Int.reduceMul, Int.reduceNeg, Int.reducePow, Int.reduceEq, ↓reduceIte, Nat.reduceEqDiff, Nat.reduceAdd, Nat.reduceMul, Nat.reduceLeDiff, Nat.reduceSub, Nat.reduceLT, Int.reduceToNat, Int.reduceLT, Int.reduceLE, reduceCtorEq]
      repeat' ((first | refine FK_split (fun h_ => ?_) (fun h_ => ?_) | refine GK_split (fun h_ => ?_) (fun h_ => ?_) | refine ite_both (fun h_ => ?_) (fun h_ => ?_)) <;> (try simp only [decide_eq_true_eq, decide_eq_false_iff_not, Bool.not_true, Bool.not_false, Bool.not_eq_true', Bool.not_eq_false', Bool.not_eq_eq_eq_not, Decidable.not_not] at h_) <;> (try simp only [r16_0, r16_1, r16_2, r16_3, r16_5, r16_6, r16_7, r16_4, r16_8, c16, F16, l16_0, q10, q9, q0, q1, q2, q3, tmod4, tdiv4, p1, p2, p3, p4, p5, p6, p7, p8, p9, p10, p11, c2, vI, h_, go_sem, Int.reduceTMod, Int.reduceTDiv, Int.reduceDiv, Int.reduceMod, Int.reduceAdd, Int.reduceSub, Int.reduceMul, Int.reduceNeg, Int.reducePow, Int.reduceEq, ↓reduceIte, Nat.reduceEqDiff, Nat.reduceAdd, Nat.reduceMul, Nat.reduceLeDiff, Nat.reduceSub, Nat.reduceLT, Int.reduceToNat, Int.reduceLT, Int.reduceLE, reduceCtorEq]))
      refine next _ ⟨?_, ?_, ?_, ?_, ?_, ?_, ?_, fun id hid => ?_⟩
      · simp only [go_sem, Int.reduceTMod, Int.reduceTDiv, Int.reduceDiv, Int.reduceMod, Int.reduceAdd, Int.reduceSub, Int.reduceMul, Int.reduceNeg, Int.reducePow, Int.reduceEq, ↓reduceIte, Nat.reduceEqDiff, Nat.reduceAdd, Nat.reduceMul, Nat.reduceLeDiff, Nat.reduceSub, Nat.reduceLT, Int.reduceToNat, Int.reduceLT, Int.reduceLE, reduceCtorEq]
      · simp only [q9, p12, go_sem, Int.reduceTMod, Int.reduceTDiv, Int.reduceDiv, Int.reduceMod, Int.reduceAdd, Int.reduceSub, Int.reduceMul, Int.reduceNeg, Int.reducePow, Int.reduceEq, ↓reduceIte, Nat.reduceEqDiff, Nat.reduceAdd, Nat.reduceMul, Nat.reduceLeDiff, Nat.reduceSub, Nat.reduceLT, Int.reduceToNat, Int.reduceLT, Int.reduceLE, reduceCtorEq]
      · simp only [q0, go_sem, Int.reduceTMod, Int.reduceTDiv, Int.reduceDiv, Int.reduceMod, Int.reduceAdd, Int.reduceSub, Int.reduceMul, Int.reduceNeg, Int.reducePow, Int.reduceEq, ↓reduceIte, Nat.reduceEqDiff, Nat.reduceAdd, Nat.reduceMul, Nat.reduceLeDiff, Nat.reduceSub, Nat.reduceLT, Int.reduceToNat, Int.reduceLT, Int.reduceLE, reduceCtorEq]
      · simp only [q1, go_sem, Int.reduceTMod, Int.reduceTDiv, Int.reduceDiv, Int.reduceMod, Int.reduceAdd, Int.reduceSub, Int.reduceMul, Int.reduceNeg, Int.reducePow, Int.reduceEq, ↓reduceIte, Nat.reduceEqDiff, Nat.reduceAdd, Nat.reduceMul, Nat.reduceLeDiff, Nat.reduceSub, Nat.reduceLT, Int.reduceToNat, Int.reduceLT, Int.reduceLE, reduceCtorEq]
      · simp only [q2, go_sem, Int.reduceTMod, Int.reduceTDiv, Int.reduceDiv, Int.reduceMod, Int.reduceAdd, Int.reduceSub, Int.reduceMul, Int.reduceNeg, Int.reducePow, Int.reduceEq, ↓reduceIte, Nat.reduceEqDiff, Nat.reduceAdd, Nat.reduceMul, Nat.reduceLeDiff, Nat.reduceSub, Nat.reduceLT, Int.reduceToNat, Int.reduceLT, Int.reduceLE, reduceCtorEq]
      · simp only [q3, go_sem, Int.reduceTMod, Int.reduceTDiv, Int.reduceDiv, Int.reduceMod, Int.reduceAdd, Int.reduceSub, Int.reduceMul, Int.reduceNeg, Int.reducePow, Int.reduceEq, ↓reduceIte, Nat.reduceEqDiff, Nat.reduceAdd, Nat.reduceMul, Nat.reduceLeDiff, Nat.reduceSub, Nat.reduceLT, Int.reduceToNat, Int.reduceLT, Int.reduceLE, reduceCtorEq]
      · show n ≤ N + 1
        omega
      · simp only
        simp only [na_0 (show id < N by omega), go_sem, Int.reduceTMod, Int.reduceTDiv, Int.reduceDiv, Int.reduceMod, Int.reduceAdd, Int.reduceSub, Int.reduceMul, Int.reduceNeg, Int.reducePow, Int.reduceEq, ↓reduceIte, Nat.reduceEqDiff, Nat.reduceAdd, Nat.reduceMul, Nat.reduceLeDiff, Nat.reduceSub, Nat.reduceLT, Int.reduceToNat, Int.reduceLT, Int.reduceLE, reduceCtorEq]
        exact qm id hid
    | true =>
      have p12 : IntKind.i64.wrap (cntK L rule x y k + 1) = cntK L rule x y (k + 1) := by rw [hst]; exact wr_eq (by omega) (by omega)
      try simp only [r16_0, r16_1, r16_2, r16_3, r16_5, r16_6, r16_7, r16_4, r16_8, c16, F16, l16_0, q10, q9, q0, q1, q2, q3, tmod4, tdiv4, p1, p2, p3, p4, p5, p6, p7, p8, p9, p10, p11, p12, c2, vI, go_sem, Int.reduceTMod, Int.reduceTDiv, Int.reduceDiv, Int.reduceMod, Int.reduceAdd, Int.reduceSub, Int.reduceMul, Int.reduceNeg, Int.reducePow, Int.reduceEq, ↓reduceIte, Nat.reduceEqDiff, Nat.reduceAdd, Nat.reduceMul, Nat.reduceLeDiff, Nat.reduceSub, Nat.reduceLT, Int.reduceToNat, Int.reduceLT, Int.reduceLE, reduceCtorEq]
      repeat' ((first | refine FK_split (fun h_ => ?_) (fun h_ => ?_) | refine GK_split (fun h_ => ?_) (fun h_ => ?_) | refine ite_both (fun h_ => ?_) (fun h_ => ?_)) <;> (try simp only [decide_eq_true_eq, decide_eq_false_iff_not, Bool.not_true, Bool.not_false, Bool.not_eq_true', Bool.not_eq_false', Bool.not_eq_eq_eq_not, Decidable.not_not] at h_) <;> (try simp only [r16_0, r16_1, r16_2, r16_3, r16_5, r16_6, r16_7, r16_4, r16_8, c16, F16, l16_0, q10, q9, q0, q1, q2, q3, tmod4, tdiv4, p1, p2, p3, p4, p5, p6, p7, p8, p9, p10, p11, p12, c2, vI, h_, go_sem, Int.reduceTMod, Int.reduceTDiv, Int.reduceDiv, Int.reduceMod, Int.reduceAdd, Int.reduceSub, Int.reduceMul, Int.reduceNeg, Int.reducePow, Int.reduceEq, ↓reduceIte, Nat.reduceEqDiff, Nat.reduceAdd, Nat.reduceMul, Nat.reduceLeDiff, Nat.reduceSub, Nat.reduceLT, Int.reduceToNat, Int.reduceLT, Int.reduceLE, reduceCtorEq]))
      refine next _ ⟨?_, ?_, ?_, ?_, ?_, ?_, ?_, fun id hid => ?_⟩
      · simp only [go_sem, Int.reduceTMod, Int.reduceTDiv, Int.reduceDiv, Int.reduceMod, Int.reduceAdd, Int.reduceSub, Int.reduceMul, Int.reduceNeg, Int.reducePow, Int.reduceEq, ↓reduceIte, Nat.reduceEqDiff, Nat.reduceAdd, Nat.reduceMul, Nat.reduceLeDiff, Nat.reduceSub, Nat.reduceLT, Int.reduceToNat, Int.reduceLT, Int.reduceLE, reduceCtorEq]
      · simp only [go_sem, Int.reduceTMod, Int.reduceTDiv, Int.reduceDiv, Int.reduceMod, Int.reduceAdd, Int.reduceSub, Int.reduceMul, Int.reduceNeg, Int.reducePow, Int.reduceEq, ↓reduceIte, Nat.reduceEqDiff, Nat.reduceAdd, Nat.reduceMul, Nat.reduceLeDiff, Nat.reduceSub, Nat.reduceLT, Int.reduceToNat, Int.reduceLT, Int.reduceLE, reduceCtorEq]
      · simp only [q0, go_sem, Int.reduceTMod, Int.reduceTDiv, Int.reduceDiv, Int.reduceMod, Int.reduceAdd, Int.reduceSub, Int.reduceMul, Int.reduceNeg, Int.reducePow, Int.reduceEq, ↓reduceIte, Nat.reduceEqDiff, Nat.reduceAdd, Nat.reduceMul, Nat.reduceLeDiff, Nat.reduceSub, Nat.reduceLT, Int.reduceToNat, Int.reduceLT, Int.reduceLE, reduceCtorEq]
      · simp only [q1, go_sem, Int.reduceTMod, Int.reduceTDiv, Int.reduceDiv, Int.reduceMod, Int.reduceAdd, Int.reduceSub, Int.reduceMul, Int.reduceNeg, Int.reducePow, Int.reduceEq, ↓reduceIte, Nat.reduceEqDiff, Nat.reduceAdd, Nat.reduceMul, Nat.reduceLeDiff, Nat.reduceSub, Nat.reduceLT, Int.reduceToNat, Int.reduceLT, Int.reduceLE, reduceCtorEq]
      · simp only [q2, go_sem, Int.reduceTMod, Int.reduceTDiv, Int.reduceDiv, Int.reduceMod, Int.reduceAdd, Int.reduceSub, Int.reduceMul, Int.reduceNeg, Int.reducePow, Int.reduceEq, ↓reduceIte, Nat.reduceEqDiff, Nat.reduceAdd, Nat.reduceMul, Nat.reduceLeDiff, Nat.reduceSub, Nat.reduceLT, Int.reduceToNat, Int.reduceLT, Int.reduceLE, reduceCtorEq]
      · simp only [q3, go_sem, Int.reduceTMod, Int.reduceTDiv, Int.reduceDiv, Int.reduceMod, Int.reduceAdd, Int.reduceSub, Int.reduceMul, Int.reduceNeg, Int.reducePow, Int.reduceEq, ↓reduceIte, Nat.reduceEqDiff, Nat.reduceAdd, Nat.reduceMul, Nat.reduceLeDiff, Nat.reduceSub, Nat.reduceLT, Int.reduceToNat, Int.reduceLT, Int.reduceLE, reduceCtorEq]
      · show n ≤ N + 1
        omega
      · simp only
        simp only [na_0 (show id < N by omega), go_sem, Int.reduceTMod, Int.reduceTDiv, Int.reduceDiv, Int.reduceMod, Int.reduceAdd, Int.reduceSub, Int.reduceMul, Int.reduceNeg, Int.reducePow, Int.reduceEq, ↓reduceIte, Nat.reduceEqDiff, Nat.reduceAdd, Nat.reduceMul, Nat.reduceLeDiff, Nat.reduceSub, Nat.reduceLT, Int.reduceToNat, Int.reduceLT, Int.reduceLE, reduceCtorEq]
        exact qm id hid
  · obtain ⟨e, M, N⟩ := s
    obtain ⟨q10, q9, q0, q1, q2, q3, qn, qm⟩ := hs
    simp only at q10 q9 q0 q1 q2 q3 qn qm
    have c2 : (((16 : Nat) : Int) < 16) = False := eq_false (by omega)
    try simp only [r16_0, r16_1, r16_2, r16_3, r16_5, r16_6, r16_7, r16_4, r16_8, c16, F16, l16_0, q10, q9, c2, go_sem, Int.reduceTMod, Int.reduceTDiv, Int.reduceDiv, Int.reduceMod, Int.reduceAdd, Int.reduceSub, Int.reduceMul, Int.reduceNeg, Int.reducePow, Int.reduceEq, ↓reduceIte, Nat.reduceEqDiff, Nat.reduceAdd, Nat.reduceMul, Nat.reduceLeDiff, Nat.reduceSub, Nat.reduceLT, Int.reduceToNat, Int.reduceLT, Int.reduceLE, reduceCtorEq]
    repeat' ((first | refine FK_split (fun h_ => ?_) (fun h_ => ?_) | refine GK_split (fun h_ => ?_) (fun h_ => ?_) | refine ite_both (fun h_ => ?_) (fun h_ => ?_)) <;> (try simp only [decide_eq_true_eq, decide_eq_false_iff_not, Bool.not_true, Bool.not_false, Bool.not_eq_true', Bool.not_eq_false', Bool.not_eq_eq_eq_not, Decidable.not_not] at h_) <;> (try simp only [r16_0, r16_1, r16_2, r16_3, r16_5, r16_6, r16_7, r16_4, r16_8, c16, F16, l16_0, q10, q9, c2, h_, go_sem, Int.reduceTMod, Int.reduceTDiv, Int.reduceDiv, Int.reduceMod, Int.reduceAdd, Int.reduceSub, Int.reduceMul, Int.reduceNeg, Int.reducePow, Int.reduceEq, ↓reduceIte, Nat.reduceEqDiff, Nat.reduceAdd, Nat.reduceMul, Nat.reduceLeDiff, Nat.reduceSub, Nat.reduceLT, Int.reduceToNat, Int.reduceLT, Int.reduceLE, reduceCtorEq]))
  · simp only [go_sem, Int.reduceTMod, Int.reduceTDiv, Int.reduceDiv, Int.reduceMod, Int.reduceAdd, Int.reduceSub, Int.reduceMul, Int.reduceNeg, Int.reducePow, Int.reduceEq, ↓reduceIte, Nat.reduceEqDiff, Nat.reduceAdd, Nat.reduceMul, Nat.reduceLeDiff, Nat.reduceSub, Nat.reduceLT, Int.reduceToNat, Int.reduceLT, Int.reduceLE, reduceCtorEq]
  · simp only [cntK, go_sem, Int.reduceTMod, Int.reduceTDiv, Int.reduceDiv, Int.reduceMod, Int.reduceAdd, Int.reduceSub, Int.reduceMul, Int.reduceNeg, Int.reducePow, Int.reduceEq, ↓reduceIte, Nat.reduceEqDiff, Nat.reduceAdd, Nat.reduceMul, Nat.reduceLeDiff, Nat.reduceSub, Nat.reduceLT, Int.reduceToNat, Int.reduceLT, Int.reduceLE, reduceCtorEq]
  · simp only [go_sem, Int.reduceTMod, Int.reduceTDiv, Int.reduceDiv, Int.reduceMod, Int.reduceAdd, Int.reduceSub, Int.reduceMul, Int.reduceNeg, Int.reducePow, Int.reduceEq, ↓reduceIte, Nat.reduceEqDiff, Nat.reduceAdd, Nat.reduceMul, Nat.reduceLeDiff, Nat.reduceSub, Nat.reduceLT, Int.reduceToNat, Int.reduceLT, Int.reduceLE, reduceCtorEq]
  · simp only [go_sem, Int.reduceTMod, Int.reduceTDiv, Int.reduceDiv, Int.reduceMod, Int.reduceAdd, Int.reduceSub, Int.reduceMul, Int.reduceNeg, Int.reducePow, Int.reduceEq, ↓reduceIte, Nat.reduceEqDiff, Nat.reduceAdd, Nat.reduceMul, Nat.reduceLeDiff, Nat.reduceSub, Nat.reduceLT, Int.reduceToNat, Int.reduceLT, Int.reduceLE, reduceCtorEq]
  · simp only [go_sem, Int.reduceTMod, Int.reduceTDiv, Int.reduceDiv, Int.reduceMod, Int.reduceAdd, Int.reduceSub, Int.reduceMul, Int.reduceNeg, Int.reducePow, Int.reduceEq, ↓reduceIte, Nat.reduceEqDiff, Nat.reduceAdd, Nat.reduceMul, Nat.reduceLeDiff, Nat.reduceSub, Nat.reduceLT, Int.reduceToNat, Int.reduceLT, Int.reduceLE, reduceCtorEq]
  · simp only [go_sem, Int.reduceTMod, Int.reduceTDiv, Int.reduceDiv, Int.reduceMod, Int.reduceAdd, Int.reduceSub, Int.reduceMul, Int.reduceNeg, Int.reducePow, Int.reduceEq, ↓reduceIte, Nat.reduceEqDiff, Nat.reduceAdd, Nat.reduceMul, Nat.reduceLeDiff, Nat.reduceSub, Nat.reduceLT, Int.reduceToNat, Int.reduceLT, Int.reduceLE, reduceCtorEq]
/-- A mask's sum. -/
def sumA (f : Nat → Int) : Nat → Int
  | 0 => 0
  | k + 1 => sumA f k + f k % 256
theorem sumA_bd (f : Nat → Int) : ∀ k : Nat, 0 ≤ sumA f k ∧ sumA f k ≤ 256 * k
  | 0 => by simp [sumA]
  | k + 1 => by
    have h := sumA_bd f k
    rw [sumA]
    omega
theorem v_Area (f : Nat → Int) (NN id : Nat) (cap : Option Nat) (o : Bool) (m : Mem) (n : Nat) (hN : NN ≤ 65536) (hm : m id = some ⟨maskC f NN, o⟩) : callF TA 17 [.one (.sl id 0 NN cap 1)] m n = some (RI (sumA f NN)) := by
  refine callF_of (Fn_ofK (fn := F17) rfl (by simp [F17]) ?_)
  try simp only [r17_0, r17_1, r17_2, r17_3, r17_4, r17_5, r17_6, r17_7, c17, F17, go_sem, Int.reduceTMod, Int.reduceTDiv, Int.reduceDiv, Int.reduceMod, Int.reduceAdd, Int.reduceSub, Int.reduceMul, Int.reduceNeg, Int.reducePow, Int.reduceEq, ↓reduceIte, Nat.reduceEqDiff, Nat.reduceAdd, Nat.reduceMul, Nat.reduceLeDiff, Nat.reduceSub, Nat.reduceLT, Int.reduceToNat, Int.reduceLT, Int.reduceLE, reduceCtorEq]
  repeat' ((first | refine FK_split (fun h_ => ?_) (fun h_ => ?_) | refine GK_split (fun h_ => ?_) (fun h_ => ?_) | refine ite_both (fun h_ => ?_) (fun h_ => ?_)) <;> (try simp only [decide_eq_true_eq, decide_eq_false_iff_not, Bool.not_true, Bool.not_false, Bool.not_eq_true', Bool.not_eq_false', Bool.not_eq_eq_eq_not, Decidable.not_not] at h_) <;> (try simp only [r17_0, r17_1, r17_2, r17_3, r17_4, r17_5, r17_6, r17_7, c17, F17, h_, go_sem, Int.reduceTMod, Int.reduceTDiv, Int.reduceDiv, Int.reduceMod, Int.reduceAdd, Int.reduceSub, Int.reduceMul, Int.reduceNeg, Int.reducePow, Int.reduceEq, ↓reduceIte, Nat.reduceEqDiff, Nat.reduceAdd, Nat.reduceMul, Nat.reduceLeDiff, Nat.reduceSub, Nat.reduceLT, Int.reduceToNat, Int.reduceLT, Int.reduceLE, reduceCtorEq]))
  refine XK_iter (inv := fun k s => s.e 8 = RI k ∧ s.e 7 = RI NN ∧ s.e 6 = .one (.sl id 0 NN cap 1) ∧ s.e 3 = RI (sumA f k) ∧ s.m = m) NN
    (fun B _ => ⟨fun k hk s hs next => ?_, fun s hs => ?_⟩) 0 (by omega) _ ⟨?_, ?_, ?_, ?_, rfl⟩
  · obtain ⟨e, M, N⟩ := s
    obtain ⟨q8, q7, q6, q3, qm⟩ := hs
    simp only at q8 q7 q6 q3 qm
    subst qm
    have hbd := sumA_bd f k
    have hst : sumA f (k + 1) = sumA f k + f k % 256 := rfl
    have hg := maskC_get f hk
    generalize sumA f (k + 1) = s1 at *
    generalize sumA f k = s0 at *
    have c2 : ((k : Int) < (NN : Int)) = True := eq_true (by omega)
    have c3 : (0 ≤ (k : Int)) = True := eq_true (by omega)
    have p1 : IntKind.i64.wrap ((k : Int) + 1) = ((k + 1 : Nat) : Int) := wr_nat (by omega)
    have p2 : IntKind.i64.wrap (f k % 256) = f k % 256 := wr_eq (by omega) (by omega)
    have p3 : IntKind.i64.wrap (s0 + f k % 256) = s1 := (wr_eq (by omega) (by omega)).trans hst.symm
    try simp only [r17_0, r17_1, r17_2, r17_3, r17_4, r17_5, r17_6, r17_7, c17, F17, l17_0, q8, q7, q6, q3, c2, c3, hm, hg, p1, p2, p3, Int.toNat_natCast, Nat.mul_one, go_sem, Int.reduceTMod, Int.reduceTDiv, Int.reduceDiv, Int.reduceMod, Int.reduceAdd, Int.reduceSub, Int.reduceMul, Int.reduceNeg, Int.reducePow, Int.reduceEq, ↓reduceIte, Nat.reduceEqDiff, Nat.reduceAdd, Nat.reduceMul, Nat.reduceLeDiff, Nat.reduceSub, Nat.reduceLT, Int.reduceToNat, Int.reduceLT, Int.reduceLE, reduceCtorEq]
    repeat' ((first | refine FK_split (fun h_ => ?_) (fun h_ => ?_) | refine GK_split (fun h_ => ?_) (fun h_ => ?_) | refine ite_both (fun h_ => ?_) (fun h_ => ?_)) <;> (try simp only [decide_eq_true_eq, decide_eq_false_iff_not, Bool.not_true, Bool.not_false, Bool.not_eq_true', Bool.not_eq_false', Bool.not_eq_eq_eq_not, Decidable.not_not] at h_) <;> (try simp only [r17_0, r17_1, r17_2, r17_3, r17_4, r17_5, r17_6, r17_7, c17, F17, l17_0, q8, q7, q6, q3, c2, c3, hm, hg, p1, p2, p3, Int.toNat_natCast, Nat.mul_one, h_, go_sem, Int.reduceTMod, Int.reduceTDiv, Int.reduceDiv, Int.reduceMod, Int.reduceAdd, Int.reduceSub, Int.reduceMul, Int.reduceNeg, Int.reducePow, Int.reduceEq, ↓reduceIte, Nat.reduceEqDiff, Nat.reduceAdd, Nat.reduceMul, Nat.reduceLeDiff, Nat.reduceSub, Nat.reduceLT, Int.reduceToNat, Int.reduceLT, Int.reduceLE, reduceCtorEq]))
    refine next _ ⟨?_, ?_, ?_, ?_, rfl⟩
    · simp only [go_sem, Int.reduceTMod, Int.reduceTDiv, Int.reduceDiv, Int.reduceMod, Int.reduceAdd, Int.reduceSub, Int.reduceMul, Int.reduceNeg, Int.reducePow, Int.reduceEq, ↓reduceIte, Nat.reduceEqDiff, Nat.reduceAdd, Nat.reduceMul, Nat.reduceLeDiff, Nat.reduceSub, Nat.reduceLT, Int.reduceToNat, Int.reduceLT, Int.reduceLE, reduceCtorEq]
    · simp only [q7, go_sem, Int.reduceTMod, Int.reduceTDiv, Int.reduceDiv, Int.reduceMod, Int.reduceAdd, Int.reduceSub, Int.reduceMul, Int.reduceNeg, Int.reducePow, Int.reduceEq, ↓reduceIte, Nat.reduceEqDiff, Nat.reduceAdd, Nat.reduceMul, Nat.reduceLeDiff, Nat.reduceSub, Nat.reduceLT, Int.reduceToNat, Int.reduceLT, Int.reduceLE, reduceCtorEq]
    · simp only [q6, go_sem, Int.reduceTMod, Int.reduceTDiv, Int.reduceDiv, Int.reduceMod, Int.reduceAdd, Int.reduceSub, Int.reduceMul, Int.reduceNeg, Int.reducePow, Int.reduceEq, ↓reduceIte, Nat.reduceEqDiff, Nat.reduceAdd, Nat.reduceMul, Nat.reduceLeDiff, Nat.reduceSub, Nat.reduceLT, Int.reduceToNat, Int.reduceLT, Int.reduceLE, reduceCtorEq]
    · simp only [go_sem, Int.reduceTMod, Int.reduceTDiv, Int.reduceDiv, Int.reduceMod, Int.reduceAdd, Int.reduceSub, Int.reduceMul, Int.reduceNeg, Int.reducePow, Int.reduceEq, ↓reduceIte, Nat.reduceEqDiff, Nat.reduceAdd, Nat.reduceMul, Nat.reduceLeDiff, Nat.reduceSub, Nat.reduceLT, Int.reduceToNat, Int.reduceLT, Int.reduceLE, reduceCtorEq]
  · obtain ⟨e, M, N⟩ := s
    obtain ⟨q8, q7, q6, q3, qm⟩ := hs
    simp only at q8 q7 q6 q3 qm
    have c2 : ((NN : Int) < (NN : Int)) = False := eq_false (by omega)
    try simp only [r17_0, r17_1, r17_2, r17_3, r17_4, r17_5, r17_6, r17_7, c17, F17, l17_0, q8, q7, q3, c2, go_sem, Int.reduceTMod, Int.reduceTDiv, Int.reduceDiv, Int.reduceMod, Int.reduceAdd, Int.reduceSub, Int.reduceMul, Int.reduceNeg, Int.reducePow, Int.reduceEq, ↓reduceIte, Nat.reduceEqDiff, Nat.reduceAdd, Nat.reduceMul, Nat.reduceLeDiff, Nat.reduceSub, Nat.reduceLT, Int.reduceToNat, Int.reduceLT, Int.reduceLE, reduceCtorEq]
    repeat' ((first | refine FK_split (fun h_ => ?_) (fun h_ => ?_) | refine GK_split (fun h_ => ?_) (fun h_ => ?_) | refine ite_both (fun h_ => ?_) (fun h_ => ?_)) <;> (try simp only [decide_eq_true_eq, decide_eq_false_iff_not, Bool.not_true, Bool.not_false, Bool.not_eq_true', Bool.not_eq_false', Bool.not_eq_eq_eq_not, Decidable.not_not] at h_) <;> (try simp only [r17_0, r17_1, r17_2, r17_3, r17_4, r17_5, r17_6, r17_7, c17, F17, l17_0, q8, q7, q3, c2, h_, go_sem, Int.reduceTMod, Int.reduceTDiv, Int.reduceDiv, Int.reduceMod, Int.reduceAdd, Int.reduceSub, Int.reduceMul, Int.reduceNeg, Int.reducePow, Int.reduceEq, ↓reduceIte, Nat.reduceEqDiff, Nat.reduceAdd, Nat.reduceMul, Nat.reduceLeDiff, Nat.reduceSub, Nat.reduceLT, Int.reduceToNat, Int.reduceLT, Int.reduceLE, reduceCtorEq]))
  · simp only [go_sem, Int.reduceTMod, Int.reduceTDiv, Int.reduceDiv, Int.reduceMod, Int.reduceAdd, Int.reduceSub, Int.reduceMul, Int.reduceNeg, Int.reducePow, Int.reduceEq, ↓reduceIte, Nat.reduceEqDiff, Nat.reduceAdd, Nat.reduceMul, Nat.reduceLeDiff, Nat.reduceSub, Nat.reduceLT, Int.reduceToNat, Int.reduceLT, Int.reduceLE, reduceCtorEq]
  · simp only [go_sem, Int.reduceTMod, Int.reduceTDiv, Int.reduceDiv, Int.reduceMod, Int.reduceAdd, Int.reduceSub, Int.reduceMul, Int.reduceNeg, Int.reducePow, Int.reduceEq, ↓reduceIte, Nat.reduceEqDiff, Nat.reduceAdd, Nat.reduceMul, Nat.reduceLeDiff, Nat.reduceSub, Nat.reduceLT, Int.reduceToNat, Int.reduceLT, Int.reduceLE, reduceCtorEq]
  · simp only [go_sem, Int.reduceTMod, Int.reduceTDiv, Int.reduceDiv, Int.reduceMod, Int.reduceAdd, Int.reduceSub, Int.reduceMul, Int.reduceNeg, Int.reducePow, Int.reduceEq, ↓reduceIte, Nat.reduceEqDiff, Nat.reduceAdd, Nat.reduceMul, Nat.reduceLeDiff, Nat.reduceSub, Nat.reduceLT, Int.reduceToNat, Int.reduceLT, Int.reduceLE, reduceCtorEq]
  · simp only [sumA, go_sem, Int.reduceTMod, Int.reduceTDiv, Int.reduceDiv, Int.reduceMod, Int.reduceAdd, Int.reduceSub, Int.reduceMul, Int.reduceNeg, Int.reducePow, Int.reduceEq, ↓reduceIte, Nat.reduceEqDiff, Nat.reduceAdd, Nat.reduceMul, Nat.reduceLeDiff, Nat.reduceSub, Nat.reduceLT, Int.reduceToNat, Int.reduceLT, Int.reduceLE, reduceCtorEq]

/- The law CoverSums, walked. Conditions: those that each theorem names. -/
open Go Go.Proofs
set_option linter.unusedSimpArgs false
set_option linter.unusedVariables false

theorem flat_enc1 : ∀ cs : List Cell, cs.flatMap enc1 = cs
  | [] => rfl
  | x :: xs => by rw [List.flatMap_cons, flat_enc1 xs]; rfl
/-- A row of polygons, made of cells. -/
theorem RPP.mk {m : Mem} {n id : Nat} {cs : List Cell} {o : Bool} {cap : Option Nat} {L : List (List Pt)} {k : Nat} (hk : k = L.length) (hl : cs.length = L.length) (hm : m id = some ⟨cs, o⟩) (hid : id < n)
    (h : ∀ (i : Nat) (c : Cell) (l : List Pt), cs[i]? = some c → L[i]? = some l → RPe m n (.one c) l) : RPP m n (.one (.sl id 0 k cap 1)) L := by
  subst hk
  refine ⟨cs, hl, Or.inr ⟨id, 0, cap, by rw [hl], hid, ?_⟩, h⟩
  rw [rd_of hm]
  unfold rdB
  rw [if_pos (by simp), List.drop_zero, Nat.mul_one, List.take_length]
  rw [flat_enc1]
/-- A mask, or a refusal. -/
theorem w_Mask2 (r : Reg) (L : List (List Pt)) (rule x0 y0 : Int) (W H : Nat) (m : Mem) (n : Nat) (hr : RPP m n r L) (hn60 : L.length ≤ 60) (hL : ∀ l ∈ L, l.length ≤ 20) (hrule : rule = 1 ∨ rule = 2) (hw : winP x0 y0 (x0 + W) (y0 + H)) :
    Fn TA 12 [r, RI rule, .agg [I x0, I y0, I (x0 + W), I (y0 + H)]] m n (fun r' m' n' => n ≤ n' ∧ (∀ id, id < n → m' id = m id) ∧ ∃ ra e, r' = .tup [ra, RI e] ∧ (inLL L = false → e = 30 ∧ ra = rnil) ∧
      (inLL L = true → e = 0 ∧ ∃ o, n ≤ o ∧ o < n' ∧ ra = .one (.sl o 0 (W * H) (some (W * H)) 1) ∧ m' o = some ⟨maskC (cJ (insM L rule x0 y0) W (4 * H)) (W * H), true⟩)) := by
  cases hin : inLL L with
  | true =>
    refine (w_Mask r L rule x0 y0 W H m n hr hn60 hL hin hrule hw).mono ?_
    rintro _ m3 n3 ⟨hn3, rfl, ho3, hm3⟩
    exact ⟨by omega, hm3, _, _, rfl, fun h => (by cases h), fun _ => ⟨rfl, n + 1, by omega, by omega, rfl, ho3⟩⟩
  | false =>
    refine (w_MaskBad r L rule x0 y0 _ _ m n hr hn60 hL (fun h => by rw [hin] at h; cases h.2.2)).mono ?_
    rintro _ m3 n3 ⟨hn3, rfl, hm3⟩
    exact ⟨by omega, hm3, _, _, rfl, fun _ => ⟨rfl, rfl⟩, fun h => (by cases h)⟩

theorem pixK_le {A B C : Nat → Nat → Bool} (r c : Nat) (h : ∀ j i, b01 (A j i) ≤ b01 (B j i) + b01 (C j i)) : ∀ k : Nat, pixK A r c k ≤ pixK B r c k + pixK C r c k
  | 0 => by simp [pixK]
  | k + 1 => by
    have h1 := pixK_le r c h k
    have h2 := h (4 * r + k / 4) (4 * c + k % 4)
    simp only [pixK]
    omega
theorem pixK_none {A : Nat → Nat → Bool} (r c : Nat) (h : ∀ j i, A j i = false) : ∀ k : Nat, pixK A r c k = 0
  | 0 => rfl
  | k + 1 => by rw [pixK, pixK_none r c h k, h]; rfl
theorem cell_pix (ins : Nat → Nat → Bool) (W H c : Nat) (hc : c < W * H) : ∃ a b, cJ ins W (4 * H) c = pixK ins a b 16 ∧ a = c / W ∧ b = c % W := by
  have hW : 0 < W := by
    rcases Nat.eq_zero_or_pos W with h | h
    · subst h; rw [Nat.zero_mul] at hc; omega
    · exact h
  refine ⟨c / W, c % W, ?_, rfl, rfl⟩
  have e := Nat.div_add_mod c W
  have h1 : c / W < H := Nat.div_lt_of_lt_mul hc
  rw [← cJ_pix ins W H (c / W) (c % W) h1 (Nat.mod_lt _ hW), Nat.mul_comm (c / W) W, e]
theorem inV_sum (a b : Int) : b01 (inV 1 (a + b)) ≤ b01 (inV 1 a) + b01 (inV 1 b) := by
  unfold inV b01
  simp only [if_true, decide_eq_true_eq]
  split <;> split <;> split <;> omega
theorem inV_two (a : Int) : inV 2 (a + a) = false := by
  unfold inV
  simp only [show ¬ (2 : Int) = 1 by omega, if_false, if_true, decide_eq_false_iff_not]
  omega
theorem wSum1 (l : List Pt) (s : Pt) : wSum [l] s 1 = windsTo l s l.length := by simp [wSum]
theorem wSum2 (l k : List Pt) (s : Pt) : wSum [l, k] s 2 = windsTo l s l.length + windsTo k s k.length := by simp [wSum]
theorem wSum4 (l k : List Pt) (s : Pt) : wSum [l, k, k, l] s 4 = (windsTo l s l.length + windsTo k s k.length) + (windsTo l s l.length + windsTo k s k.length) := by simp [wSum]; omega
theorem sums_plain (l k : List Pt) (c : Nat) (hc : c < 16) :
    0 ≤ cJ (insM [l, k] 1 0 0) 4 16 c ∧ cJ (insM [l, k] 1 0 0) 4 16 c ≤ 16 ∧ (0 ≤ cJ (insM [l] 1 0 0) 4 16 c ∧ cJ (insM [l] 1 0 0) 4 16 c ≤ 16) ∧ (0 ≤ cJ (insM [k] 1 0 0) 4 16 c ∧ cJ (insM [k] 1 0 0) 4 16 c ≤ 16) ∧
    cJ (insM [l, k] 1 0 0) 4 16 c ≤ cJ (insM [l] 1 0 0) 4 16 c + cJ (insM [k] 1 0 0) 4 16 c ∧ cJ (insM [l, k, k, l] 2 0 0) 4 16 c = 0 := by
  obtain ⟨a, b, e1, rfl, rfl⟩ := cell_pix (insM [l, k] 1 0 0) 4 4 c hc
  obtain ⟨a, b, e2, rfl, rfl⟩ := cell_pix (insM [l] 1 0 0) 4 4 c hc
  obtain ⟨a, b, e3, rfl, rfl⟩ := cell_pix (insM [k] 1 0 0) 4 4 c hc
  obtain ⟨a, b, e4, rfl, rfl⟩ := cell_pix (insM [l, k, k, l] 2 0 0) 4 4 c hc
  simp only [show 4 * 4 = 16 from rfl] at e1 e2 e3 e4
  rw [e1, e2, e3, e4]
  have b1 := pixK_bd (insM [l, k] 1 0 0) (c / 4) (c % 4) 16
  have b2 := pixK_bd (insM [l] 1 0 0) (c / 4) (c % 4) 16
  have b3 := pixK_bd (insM [k] 1 0 0) (c / 4) (c % 4) 16
  have h1 := pixK_le (A := insM [l, k] 1 0 0) (B := insM [l] 1 0 0) (C := insM [k] 1 0 0) (c / 4) (c % 4) (fun j i => by
    unfold insM
    rw [show [l, k].length = 2 from rfl, show [l].length = 1 from rfl, show [k].length = 1 from rfl, wSum2, wSum1, wSum1]
    exact inV_sum _ _) 16
  have h2 := pixK_none (A := insM [l, k, k, l] 2 0 0) (c / 4) (c % 4) (fun j i => by
    unfold insM
    rw [show [l, k, k, l].length = 4 from rfl, wSum4]
    exact inV_two _) 16
  omega

/- The law CoverSums, walked. Conditions: those that each theorem names. -/
open Go Go.Proofs
set_option linter.unusedSimpArgs false
set_option linter.unusedVariables false

theorem law5 (cl ck : Cell) (l k : List Pt) (m : Mem) (n : Nat) (hl : RPe m n (.one cl) l) (hk : RPe m n (.one ck) k) : Fn TA 5 [.one cl, .one ck] m n (fun r' _ _ => r' = RB true) := by
  refine Fn_ofK (fn := F5) rfl (by simp [F5]) ?_
  obtain ⟨M1, hM1⟩ : ∃ M1, M1 = upd (upd (upd m n (some ⟨[I 0, I 0, I 0, I 0], true⟩)) n (some ⟨[I 0, I 0, I 4, I 4], true⟩)) (n + 1) (some ⟨[cl, ck], true⟩) := ⟨_, rfl⟩
  have old1 : ∀ id, id < n → M1 id = m id := fun id hid => by rw [hM1, upd_ne _ _ (by omega), upd_ne _ _ (by omega), upd_ne _ _ (by omega)]
  have hb1 : M1 n = some ⟨[I 0, I 0, I 4, I 4], true⟩ := by rw [hM1, upd_ne _ _ (by omega), upd_same]
  have two : ∀ (M : Mem) (N id : Nat) (o : Bool) (cap : Option Nat), n ≤ N → (∀ id, id < n → M id = m id) → id < N → M id = some ⟨[cl, ck], o⟩ → RPP M N (.one (.sl id 0 2 cap 1)) [l, k] := fun M N id o cap hN hM hid hb =>
    RPP.mk (L := [l, k]) rfl rfl hb hid (fun i c x hc hx => by
      match i, hc, hx with
      | 0, hc, hx => cases hc; cases hx; exact hl.keep hN hM
      | 1, hc, hx => cases hc; cases hx; exact hk.keep hN hM
      | i + 2, hc, hx => simp at hx)
  have one1 : ∀ (M : Mem) (N id : Nat) (o : Bool) (cap : Option Nat), n ≤ N → (∀ id, id < n → M id = m id) → id < N → M id = some ⟨[cl], o⟩ → RPP M N (.one (.sl id 0 1 cap 1)) [l] := fun M N id o cap hN hM hid hb =>
    RPP.mk (L := [l]) rfl rfl hb hid (fun i c x hc hx => by
      match i, hc, hx with
      | 0, hc, hx => cases hc; cases hx; exact hl.keep hN hM
      | i + 1, hc, hx => simp at hx)
  have one2 : ∀ (M : Mem) (N id : Nat) (o : Bool) (cap : Option Nat), n ≤ N → (∀ id, id < n → M id = m id) → id < N → M id = some ⟨[ck], o⟩ → RPP M N (.one (.sl id 0 1 cap 1)) [k] := fun M N id o cap hN hM hid hb =>
    RPP.mk (L := [k]) rfl rfl hb hid (fun i c x hc hx => by
      match i, hc, hx with
      | 0, hc, hx => cases hc; cases hx; exact hk.keep hN hM
      | i + 1, hc, hx => simp at hx)
  have four : ∀ (M : Mem) (N id : Nat) (o : Bool) (cap : Option Nat), n ≤ N → (∀ id, id < n → M id = m id) → id < N → M id = some ⟨[cl, ck, ck, cl], o⟩ → RPP M N (.one (.sl id 0 4 cap 1)) [l, k, k, l] := fun M N id o cap hN hM hid hb =>
    RPP.mk (L := [l, k, k, l]) rfl rfl hb hid (fun i c x hc hx => by
      match i, hc, hx with
      | 0, hc, hx => cases hc; cases hx; exact hl.keep hN hM
      | 1, hc, hx => cases hc; cases hx; exact hk.keep hN hM
      | 2, hc, hx => cases hc; cases hx; exact hk.keep hN hM
      | 3, hc, hx => cases hc; cases hx; exact hl.keep hN hM
      | i + 4, hc, hx => simp at hx)
  have hw : winP 0 0 (0 + (4 : Nat)) (0 + (4 : Nat)) := by decide
  obtain ⟨b, vS, hb⟩ := v_small (.one (.sl (n + 1) 0 2 (some 2) 1)) [l, k] 0 0 4 4 (frz M1) (n + 2) (two M1 (n + 2) (n + 1) true (some 2) (by omega) old1 (by omega) (by rw [hM1, upd_same])).frz
  rw [hM1] at vS
  cases b
  · skip
    try simp only [r5_0, r5_1, r5_2, r5_3, r5_4, r5_5, r5_6, r5_7, r5_8, r5_9, r5_10, r5_11, r5_12, r5_13, r5_14, r5_15, r5_16, c5, F5, vS, v_awake08, go_sem, Int.reduceTMod, Int.reduceTDiv, Int.reduceDiv, Int.reduceMod, Int.reduceAdd, Int.reduceSub, Int.reduceMul, Int.reduceNeg, Int.reducePow, Int.reduceEq, ↓reduceIte, Nat.reduceEqDiff, Nat.reduceAdd, Nat.reduceMul, Nat.reduceLeDiff, Nat.reduceSub, Nat.reduceLT, Int.reduceToNat, Int.reduceLT, Int.reduceLE, reduceCtorEq]
    repeat' ((first | refine FK_split (fun h_ => ?_) (fun h_ => ?_) | refine GK_split (fun h_ => ?_) (fun h_ => ?_) | refine ite_both (fun h_ => ?_) (fun h_ => ?_)) <;> (try simp only [decide_eq_true_eq, decide_eq_false_iff_not, Bool.not_true, Bool.not_false, Bool.not_eq_true', Bool.not_eq_false', Bool.not_eq_eq_eq_not, Decidable.not_not] at h_) <;> (try simp only [r5_0, r5_1, r5_2, r5_3, r5_4, r5_5, r5_6, r5_7, r5_8, r5_9, r5_10, r5_11, r5_12, r5_13, r5_14, r5_15, r5_16, c5, F5, vS, v_awake08, h_, go_sem, Int.reduceTMod, Int.reduceTDiv, Int.reduceDiv, Int.reduceMod, Int.reduceAdd, Int.reduceSub, Int.reduceMul, Int.reduceNeg, Int.reducePow, Int.reduceEq, ↓reduceIte, Nat.reduceEqDiff, Nat.reduceAdd, Nat.reduceMul, Nat.reduceLeDiff, Nat.reduceSub, Nat.reduceLT, Int.reduceToNat, Int.reduceLT, Int.reduceLE, reduceCtorEq]))
  obtain ⟨_, h20, _⟩ := hb rfl
  have hl20 := h20 l (by simp)
  have hk20 := h20 k (by simp)
  try simp only [F5, c5, r5_0, r5_1, r5_2, r5_4, vS, go_sem, Int.reduceTMod, Int.reduceTDiv, Int.reduceDiv, Int.reduceMod, Int.reduceAdd, Int.reduceSub, Int.reduceMul, Int.reduceNeg, Int.reducePow, Int.reduceEq, ↓reduceIte, Nat.reduceEqDiff, Nat.reduceAdd, Nat.reduceMul, Nat.reduceLeDiff, Nat.reduceSub, Nat.reduceLT, Int.reduceToNat, Int.reduceLT, Int.reduceLE, reduceCtorEq]
  repeat' ((first | refine FK_split (fun h_ => ?_) (fun h_ => ?_) | refine GK_split (fun h_ => ?_) (fun h_ => ?_) | refine ite_both (fun h_ => ?_) (fun h_ => ?_)) <;> (try simp only [decide_eq_true_eq, decide_eq_false_iff_not, Bool.not_true, Bool.not_false, Bool.not_eq_true', Bool.not_eq_false', Bool.not_eq_eq_eq_not, Decidable.not_not] at h_) <;> (try simp only [F5, c5, r5_0, r5_1, r5_2, r5_4, vS, h_, go_sem, Int.reduceTMod, Int.reduceTDiv, Int.reduceDiv, Int.reduceMod, Int.reduceAdd, Int.reduceSub, Int.reduceMul, Int.reduceNeg, Int.reducePow, Int.reduceEq, ↓reduceIte, Nat.reduceEqDiff, Nat.reduceAdd, Nat.reduceMul, Nat.reduceLeDiff, Nat.reduceSub, Nat.reduceLT, Int.reduceToNat, Int.reduceLT, Int.reduceLE, reduceCtorEq]))
  rw [← hM1]
  have hbx : ∀ (M : Mem), M n = some ⟨[I 0, I 0, I 4, I 4], true⟩ → rd M n 0 4 = some [I 0, I 0, I 4, I 4] := fun M h => by rw [rd_of h]; rfl
  refine RK_callk ?_
  simp only [go_sem, Int.reduceTMod, Int.reduceTDiv, Int.reduceDiv, Int.reduceMod, Int.reduceAdd, Int.reduceSub, Int.reduceMul, Int.reduceNeg, Int.reducePow, Int.reduceEq, ↓reduceIte, Nat.reduceEqDiff, Nat.reduceAdd, Nat.reduceMul, Nat.reduceLeDiff, Nat.reduceSub, Nat.reduceLT, Int.reduceToNat, Int.reduceLT, Int.reduceLE, reduceCtorEq]
  obtain ⟨QA, hQA⟩ : ∃ Q, Q = upd M1 (n + 2) (some ⟨[cl, ck], true⟩) := ⟨_, rfl⟩
  rw [← hQA]
  have oldQA : ∀ id, id < n + 2 → QA id = M1 id := fun id hid => by rw [hQA, upd_ne _ _ (by omega)]
  have mkA := w_Mask2 (.one (.sl (n + 2) 0 2 (some 2) 1)) [l, k] 1 0 0 4 4 (frz QA) (n + 2 + 1) (two QA (n + 2 + 1) (n + 2) true (some 2) (by omega) (fun id hid => by rw [oldQA id (by omega)]; exact old1 id hid) (by omega) (by rw [hQA, upd_same])).frz (by simp) (by intro x hx; simp at hx; rcases hx with rfl | rfl <;> omega) (Or.inl rfl) hw
  rw [show (0 : Int) + ((4 : Nat) : Int) = 4 from rfl] at mkA
  refine mkA.mono ?_
  clear mkA
  rintro _ mA NA ⟨hnA, _, raA, eA, rfl, hbadA, hokA⟩
  rw [show max (n + 2 + 1) NA = NA by omega]
  have oldA' : ∀ id, id < n + 2 → unfrz QA (n + 2 + 1) mA id = M1 id := fun id hid => by rw [unfrz_at, if_pos (by omega)]; exact oldQA id hid
  have newA : ∀ id, n + 2 < id → unfrz QA (n + 2 + 1) mA id = mA id := fun id hid => by rw [unfrz_at, if_neg (by omega)]
  generalize unfrz QA (n + 2 + 1) mA = MA at *
  have oldA : ∀ id, id < n → MA id = m id := fun id hid => by rw [oldA' id (by omega)]; exact old1 id hid
  have hbA : MA n = some ⟨[I 0, I 0, I 4, I 4], true⟩ := by rw [oldA' n (by omega)]; exact hb1
  try simp only [r5_5, hbA, hbx MA hbA, na_0 (show n < NA by omega), go_sem, Int.reduceTMod, Int.reduceTDiv, Int.reduceDiv, Int.reduceMod, Int.reduceAdd, Int.reduceSub, Int.reduceMul, Int.reduceNeg, Int.reducePow, Int.reduceEq, ↓reduceIte, Nat.reduceEqDiff, Nat.reduceAdd, Nat.reduceMul, Nat.reduceLeDiff, Nat.reduceSub, Nat.reduceLT, Int.reduceToNat, Int.reduceLT, Int.reduceLE, reduceCtorEq]
  repeat' ((first | refine FK_split (fun h_ => ?_) (fun h_ => ?_) | refine GK_split (fun h_ => ?_) (fun h_ => ?_) | refine ite_both (fun h_ => ?_) (fun h_ => ?_)) <;> (try simp only [decide_eq_true_eq, decide_eq_false_iff_not, Bool.not_true, Bool.not_false, Bool.not_eq_true', Bool.not_eq_false', Bool.not_eq_eq_eq_not, Decidable.not_not] at h_) <;> (try simp only [r5_5, hbA, hbx MA hbA, na_0 (show n < NA by omega), h_, go_sem, Int.reduceTMod, Int.reduceTDiv, Int.reduceDiv, Int.reduceMod, Int.reduceAdd, Int.reduceSub, Int.reduceMul, Int.reduceNeg, Int.reducePow, Int.reduceEq, ↓reduceIte, Nat.reduceEqDiff, Nat.reduceAdd, Nat.reduceMul, Nat.reduceLeDiff, Nat.reduceSub, Nat.reduceLT, Int.reduceToNat, Int.reduceLT, Int.reduceLE, reduceCtorEq]))
  refine RK_callk ?_
  simp only [go_sem, Int.reduceTMod, Int.reduceTDiv, Int.reduceDiv, Int.reduceMod, Int.reduceAdd, Int.reduceSub, Int.reduceMul, Int.reduceNeg, Int.reducePow, Int.reduceEq, ↓reduceIte, Nat.reduceEqDiff, Nat.reduceAdd, Nat.reduceMul, Nat.reduceLeDiff, Nat.reduceSub, Nat.reduceLT, Int.reduceToNat, Int.reduceLT, Int.reduceLE, reduceCtorEq]
  obtain ⟨QB, hQB⟩ : ∃ Q, Q = upd MA (NA) (some ⟨[cl], true⟩) := ⟨_, rfl⟩
  rw [← hQB]
  have oldQB : ∀ id, id < NA → QB id = MA id := fun id hid => by rw [hQB, upd_ne _ _ (by omega)]
  have mkB := w_Mask2 (.one (.sl (NA) 0 1 (some 1) 1)) [l] 1 0 0 4 4 (frz QB) (NA + 1) (one1 QB (NA + 1) (NA) true (some 1) (by omega) (fun id hid => by rw [oldQB id (by omega)]; exact oldA id hid) (by omega) (by rw [hQB, upd_same])).frz (by simp) (by intro x hx; simp at hx; rcases hx with rfl <;> omega) (Or.inl rfl) hw
  rw [show (0 : Int) + ((4 : Nat) : Int) = 4 from rfl] at mkB
  refine mkB.mono ?_
  clear mkB
  rintro _ mB NB ⟨hnB, _, raB, eB, rfl, hbadB, hokB⟩
  rw [show max (NA + 1) NB = NB by omega]
  have oldB' : ∀ id, id < NA → unfrz QB (NA + 1) mB id = MA id := fun id hid => by rw [unfrz_at, if_pos (by omega)]; exact oldQB id hid
  have newB : ∀ id, NA < id → unfrz QB (NA + 1) mB id = mB id := fun id hid => by rw [unfrz_at, if_neg (by omega)]
  generalize unfrz QB (NA + 1) mB = MB at *
  have oldB : ∀ id, id < n → MB id = m id := fun id hid => by rw [oldB' id (by omega)]; exact oldA id hid
  have hbB : MB n = some ⟨[I 0, I 0, I 4, I 4], true⟩ := by rw [oldB' n (by omega)]; exact hbA
  try simp only [r5_6, hbB, hbx MB hbB, na_0 (show n < NB by omega), go_sem, Int.reduceTMod, Int.reduceTDiv, Int.reduceDiv, Int.reduceMod, Int.reduceAdd, Int.reduceSub, Int.reduceMul, Int.reduceNeg, Int.reducePow, Int.reduceEq, ↓reduceIte, Nat.reduceEqDiff, Nat.reduceAdd, Nat.reduceMul, Nat.reduceLeDiff, Nat.reduceSub, Nat.reduceLT, Int.reduceToNat, Int.reduceLT, Int.reduceLE, reduceCtorEq]
  repeat' ((first | refine FK_split (fun h_ => ?_) (fun h_ => ?_) | refine GK_split (fun h_ => ?_) (fun h_ => ?_) | refine ite_both (fun h_ => ?_) (fun h_ => ?_)) <;> (try simp only [decide_eq_true_eq, decide_eq_false_iff_not, Bool.not_true, Bool.not_false, Bool.not_eq_true', Bool.not_eq_false', Bool.not_eq_eq_eq_not, Decidable.not_not] at h_) <;> (try simp only [r5_6, hbB, hbx MB hbB, na_0 (show n < NB by omega), h_, go_sem, Int.reduceTMod, Int.reduceTDiv, Int.reduceDiv, Int.reduceMod, Int.reduceAdd, Int.reduceSub, Int.reduceMul, Int.reduceNeg, Int.reducePow, Int.reduceEq, ↓reduceIte, Nat.reduceEqDiff, Nat.reduceAdd, Nat.reduceMul, Nat.reduceLeDiff, Nat.reduceSub, Nat.reduceLT, Int.reduceToNat, Int.reduceLT, Int.reduceLE, reduceCtorEq]))
  refine RK_callk ?_
  simp only [go_sem, Int.reduceTMod, Int.reduceTDiv, Int.reduceDiv, Int.reduceMod, Int.reduceAdd, Int.reduceSub, Int.reduceMul, Int.reduceNeg, Int.reducePow, Int.reduceEq, ↓reduceIte, Nat.reduceEqDiff, Nat.reduceAdd, Nat.reduceMul, Nat.reduceLeDiff, Nat.reduceSub, Nat.reduceLT, Int.reduceToNat, Int.reduceLT, Int.reduceLE, reduceCtorEq]
  obtain ⟨QC, hQC⟩ : ∃ Q, Q = upd MB (NB) (some ⟨[ck], true⟩) := ⟨_, rfl⟩
  rw [← hQC]
  have oldQC : ∀ id, id < NB → QC id = MB id := fun id hid => by rw [hQC, upd_ne _ _ (by omega)]
  have mkC := w_Mask2 (.one (.sl (NB) 0 1 (some 1) 1)) [k] 1 0 0 4 4 (frz QC) (NB + 1) (one2 QC (NB + 1) (NB) true (some 1) (by omega) (fun id hid => by rw [oldQC id (by omega)]; exact oldB id hid) (by omega) (by rw [hQC, upd_same])).frz (by simp) (by intro x hx; simp at hx; rcases hx with rfl <;> omega) (Or.inl rfl) hw
  rw [show (0 : Int) + ((4 : Nat) : Int) = 4 from rfl] at mkC
  refine mkC.mono ?_
  clear mkC
  rintro _ mC NC ⟨hnC, _, raC, eC, rfl, hbadC, hokC⟩
  rw [show max (NB + 1) NC = NC by omega]
  have oldC' : ∀ id, id < NB → unfrz QC (NB + 1) mC id = MB id := fun id hid => by rw [unfrz_at, if_pos (by omega)]; exact oldQC id hid
  have newC : ∀ id, NB < id → unfrz QC (NB + 1) mC id = mC id := fun id hid => by rw [unfrz_at, if_neg (by omega)]
  generalize unfrz QC (NB + 1) mC = MC at *
  have oldC : ∀ id, id < n → MC id = m id := fun id hid => by rw [oldC' id (by omega)]; exact oldB id hid
  have hbC : MC n = some ⟨[I 0, I 0, I 4, I 4], true⟩ := by rw [oldC' n (by omega)]; exact hbB
  try simp only [r5_7, hbC, hbx MC hbC, na_0 (show n < NC by omega), go_sem, Int.reduceTMod, Int.reduceTDiv, Int.reduceDiv, Int.reduceMod, Int.reduceAdd, Int.reduceSub, Int.reduceMul, Int.reduceNeg, Int.reducePow, Int.reduceEq, ↓reduceIte, Nat.reduceEqDiff, Nat.reduceAdd, Nat.reduceMul, Nat.reduceLeDiff, Nat.reduceSub, Nat.reduceLT, Int.reduceToNat, Int.reduceLT, Int.reduceLE, reduceCtorEq]
  repeat' ((first | refine FK_split (fun h_ => ?_) (fun h_ => ?_) | refine GK_split (fun h_ => ?_) (fun h_ => ?_) | refine ite_both (fun h_ => ?_) (fun h_ => ?_)) <;> (try simp only [decide_eq_true_eq, decide_eq_false_iff_not, Bool.not_true, Bool.not_false, Bool.not_eq_true', Bool.not_eq_false', Bool.not_eq_eq_eq_not, Decidable.not_not] at h_) <;> (try simp only [r5_7, hbC, hbx MC hbC, na_0 (show n < NC by omega), h_, go_sem, Int.reduceTMod, Int.reduceTDiv, Int.reduceDiv, Int.reduceMod, Int.reduceAdd, Int.reduceSub, Int.reduceMul, Int.reduceNeg, Int.reducePow, Int.reduceEq, ↓reduceIte, Nat.reduceEqDiff, Nat.reduceAdd, Nat.reduceMul, Nat.reduceLeDiff, Nat.reduceSub, Nat.reduceLT, Int.reduceToNat, Int.reduceLT, Int.reduceLE, reduceCtorEq]))
  refine RK_callk ?_
  simp only [go_sem, Int.reduceTMod, Int.reduceTDiv, Int.reduceDiv, Int.reduceMod, Int.reduceAdd, Int.reduceSub, Int.reduceMul, Int.reduceNeg, Int.reducePow, Int.reduceEq, ↓reduceIte, Nat.reduceEqDiff, Nat.reduceAdd, Nat.reduceMul, Nat.reduceLeDiff, Nat.reduceSub, Nat.reduceLT, Int.reduceToNat, Int.reduceLT, Int.reduceLE, reduceCtorEq]
  obtain ⟨QD, hQD⟩ : ∃ Q, Q = upd MC (NC) (some ⟨[cl, ck, ck, cl], true⟩) := ⟨_, rfl⟩
  rw [← hQD]
  have oldQD : ∀ id, id < NC → QD id = MC id := fun id hid => by rw [hQD, upd_ne _ _ (by omega)]
  have mkD := w_Mask2 (.one (.sl (NC) 0 4 (some 4) 1)) [l, k, k, l] 2 0 0 4 4 (frz QD) (NC + 1) (four QD (NC + 1) (NC) true (some 4) (by omega) (fun id hid => by rw [oldQD id (by omega)]; exact oldC id hid) (by omega) (by rw [hQD, upd_same])).frz (by simp) (by intro x hx; simp at hx; rcases hx with rfl | rfl | rfl | rfl <;> omega) (Or.inr rfl) hw
  rw [show (0 : Int) + ((4 : Nat) : Int) = 4 from rfl] at mkD
  refine mkD.mono ?_
  clear mkD
  rintro _ mD ND ⟨hnD, _, raD, eD, rfl, hbadD, hokD⟩
  rw [show max (NC + 1) ND = ND by omega]
  have oldD' : ∀ id, id < NC → unfrz QD (NC + 1) mD id = MC id := fun id hid => by rw [unfrz_at, if_pos (by omega)]; exact oldQD id hid
  have newD : ∀ id, NC < id → unfrz QD (NC + 1) mD id = mD id := fun id hid => by rw [unfrz_at, if_neg (by omega)]
  generalize unfrz QD (NC + 1) mD = MD at *
  have oldD : ∀ id, id < n → MD id = m id := fun id hid => by rw [oldD' id (by omega)]; exact oldC id hid
  have hbD : MD n = some ⟨[I 0, I 0, I 4, I 4], true⟩ := by rw [oldD' n (by omega)]; exact hbC
  have inl2 : inLL [l, k] = (l.all inP && k.all inP) := by simp [inLL]
  have inl1 : ∀ x : List Pt, inLL [x] = x.all inP := fun x => by simp [inLL]
  have inl4 : inLL [l, k, k, l] = (l.all inP && (k.all inP && (k.all inP && l.all inP))) := by simp [inLL]
  cases hin : inLL [l, k] with
  | false =>
    obtain ⟨hea, _⟩ := hbadA hin
    rw [hea]
    obtain ⟨Q, hQ⟩ : ∃ Q, Q = upd MD ND (some ⟨[cl, ck], true⟩) := ⟨_, rfl⟩
    try simp only [r5_7, r5_8, r5_9, go_sem, Int.reduceTMod, Int.reduceTDiv, Int.reduceDiv, Int.reduceMod, Int.reduceAdd, Int.reduceSub, Int.reduceMul, Int.reduceNeg, Int.reducePow, Int.reduceEq, ↓reduceIte, Nat.reduceEqDiff, Nat.reduceAdd, Nat.reduceMul, Nat.reduceLeDiff, Nat.reduceSub, Nat.reduceLT, Int.reduceToNat, Int.reduceLT, Int.reduceLE, reduceCtorEq]
    repeat' ((first | refine FK_split (fun h_ => ?_) (fun h_ => ?_) | refine GK_split (fun h_ => ?_) (fun h_ => ?_) | refine ite_both (fun h_ => ?_) (fun h_ => ?_)) <;> (try simp only [decide_eq_true_eq, decide_eq_false_iff_not, Bool.not_true, Bool.not_false, Bool.not_eq_true', Bool.not_eq_false', Bool.not_eq_eq_eq_not, Decidable.not_not] at h_) <;> (try simp only [r5_7, r5_8, r5_9, h_, go_sem, Int.reduceTMod, Int.reduceTDiv, Int.reduceDiv, Int.reduceMod, Int.reduceAdd, Int.reduceSub, Int.reduceMul, Int.reduceNeg, Int.reducePow, Int.reduceEq, ↓reduceIte, Nat.reduceEqDiff, Nat.reduceAdd, Nat.reduceMul, Nat.reduceLeDiff, Nat.reduceSub, Nat.reduceLT, Int.reduceToNat, Int.reduceLT, Int.reduceLE, reduceCtorEq]))
    refine RK_callk ?_
    simp only [go_sem, Int.reduceTMod, Int.reduceTDiv, Int.reduceDiv, Int.reduceMod, Int.reduceAdd, Int.reduceSub, Int.reduceMul, Int.reduceNeg, Int.reducePow, Int.reduceEq, ↓reduceIte, Nat.reduceEqDiff, Nat.reduceAdd, Nat.reduceMul, Nat.reduceLeDiff, Nat.reduceSub, Nat.reduceLT, Int.reduceToNat, Int.reduceLT, Int.reduceLE, reduceCtorEq]
    rw [← hQ]
    have hrQ : RPP Q (ND + 1) (.one (.sl ND 0 2 (some 2) 1)) [l, k] := two Q (ND + 1) ND true (some 2) (by omega) (fun id hid => by rw [hQ, upd_ne _ _ (by omega)]; exact oldD id hid) (by omega) (by rw [hQ, upd_same])
    have h20' : ∀ x ∈ [l, k], x.length ≤ 20 := by intro x hx; simp at hx; rcases hx with rfl | rfl <;> omega
    refine (w_refs _ [l, k] _ _ hrQ.frz (by simp) h20').mono ?_
    rintro r2 m2 n2 ⟨hn2, hO⟩
    rw [show max (ND + 1) n2 = n2 by omega]
    have hO2 : RPs (unfrz Q (ND + 1) m2) n2 r2 [l, k] := (hO.keep (Nat.le_refl _) (fun id h1 h2 => by rw [unfrz_at, if_neg (by omega)])).s
    generalize unfrz Q (ND + 1) m2 = M2 at *
    have vI := v_In08 r2 [l, k] (frz M2) n2 hO2.frz (by simp) h20'
    rw [hin] at vI
    try simp only [r5_9, vI, v_awake08, go_sem, Int.reduceTMod, Int.reduceTDiv, Int.reduceDiv, Int.reduceMod, Int.reduceAdd, Int.reduceSub, Int.reduceMul, Int.reduceNeg, Int.reducePow, Int.reduceEq, ↓reduceIte, Nat.reduceEqDiff, Nat.reduceAdd, Nat.reduceMul, Nat.reduceLeDiff, Nat.reduceSub, Nat.reduceLT, Int.reduceToNat, Int.reduceLT, Int.reduceLE, reduceCtorEq]
    repeat' ((first | refine FK_split (fun h_ => ?_) (fun h_ => ?_) | refine GK_split (fun h_ => ?_) (fun h_ => ?_) | refine ite_both (fun h_ => ?_) (fun h_ => ?_)) <;> (try simp only [decide_eq_true_eq, decide_eq_false_iff_not, Bool.not_true, Bool.not_false, Bool.not_eq_true', Bool.not_eq_false', Bool.not_eq_eq_eq_not, Decidable.not_not] at h_) <;> (try simp only [r5_9, vI, v_awake08, h_, go_sem, Int.reduceTMod, Int.reduceTDiv, Int.reduceDiv, Int.reduceMod, Int.reduceAdd, Int.reduceSub, Int.reduceMul, Int.reduceNeg, Int.reducePow, Int.reduceEq, ↓reduceIte, Nat.reduceEqDiff, Nat.reduceAdd, Nat.reduceMul, Nat.reduceLeDiff, Nat.reduceSub, Nat.reduceLT, Int.reduceToNat, Int.reduceLT, Int.reduceLE, reduceCtorEq]))
  | true =>
    have hlk : l.all inP = true ∧ k.all inP = true := by rw [inl2, Bool.and_eq_true] at hin; exact hin
    obtain ⟨heA, oA, a1, a2, hraA, hoA⟩ := hokA hin
    obtain ⟨heB, oB, b1, b2, hraB, hoB⟩ := hokB (by rw [inl1]; exact hlk.1)
    obtain ⟨heC, oC, c1, c2, hraC, hoC⟩ := hokC (by rw [inl1]; exact hlk.2)
    obtain ⟨heD, oD, d1, d2, hraD, hoD⟩ := hokD (by rw [inl4, hlk.1, hlk.2]; rfl)
    rw [← newA oA (by omega), ← oldB' oA (by omega), ← oldC' oA (by omega), ← oldD' oA (by omega)] at hoA
    rw [← newB oB (by omega), ← oldC' oB (by omega), ← oldD' oB (by omega)] at hoB
    rw [← newC oC (by omega), ← oldD' oC (by omega)] at hoC
    rw [← newD oD (by omega)] at hoD
    simp only [Nat.reduceMul] at hoA hoB hoC hoD hraA hraB hraC hraD
    have hpl := sums_plain l k
    generalize cJ (insM [l, k] 1 0 0) 4 16 = fA at *
    generalize cJ (insM [l] 1 0 0) 4 16 = fB at *
    generalize cJ (insM [k] 1 0 0) 4 16 = fC at *
    generalize cJ (insM [l, k, k, l] 2 0 0) 4 16 = fD at *
    rw [heA, heB, heC, heD, hraA, hraB, hraC, hraD]
    try simp only [r5_7, r5_8, r5_10, go_sem, Int.reduceTMod, Int.reduceTDiv, Int.reduceDiv, Int.reduceMod, Int.reduceAdd, Int.reduceSub, Int.reduceMul, Int.reduceNeg, Int.reducePow, Int.reduceEq, ↓reduceIte, Nat.reduceEqDiff, Nat.reduceAdd, Nat.reduceMul, Nat.reduceLeDiff, Nat.reduceSub, Nat.reduceLT, Int.reduceToNat, Int.reduceLT, Int.reduceLE, reduceCtorEq]
    repeat' ((first | refine FK_split (fun h_ => ?_) (fun h_ => ?_) | refine GK_split (fun h_ => ?_) (fun h_ => ?_) | refine ite_both (fun h_ => ?_) (fun h_ => ?_)) <;> (try simp only [decide_eq_true_eq, decide_eq_false_iff_not, Bool.not_true, Bool.not_false, Bool.not_eq_true', Bool.not_eq_false', Bool.not_eq_eq_eq_not, Decidable.not_not] at h_) <;> (try simp only [r5_7, r5_8, r5_10, h_, go_sem, Int.reduceTMod, Int.reduceTDiv, Int.reduceDiv, Int.reduceMod, Int.reduceAdd, Int.reduceSub, Int.reduceMul, Int.reduceNeg, Int.reducePow, Int.reduceEq, ↓reduceIte, Nat.reduceEqDiff, Nat.reduceAdd, Nat.reduceMul, Nat.reduceLeDiff, Nat.reduceSub, Nat.reduceLT, Int.reduceToNat, Int.reduceLT, Int.reduceLE, reduceCtorEq]))
    refine XK_iter (inv := fun i s => s.m = MD ∧ s.e 80 = RI i ∧ s.e 79 = RI 16 ∧ s.e 6 = .one (.sl oA 0 16 (some 16) 1) ∧ s.e 8 = .one (.sl oB 0 16 (some 16) 1) ∧ s.e 10 = .one (.sl oC 0 16 (some 16) 1) ∧ s.e 12 = .one (.sl oD 0 16 (some 16) 1)) 16
      (fun B _ => ⟨fun i hi s hs next => ?_, fun s hs => ?_⟩) 0 (by omega) _ ⟨rfl, ?_, ?_, ?_, ?_, ?_, ?_⟩
    · obtain ⟨e, M, N⟩ := s
      obtain ⟨qm, q80, q79, q6, q8, q10, q12⟩ := hs
      simp only at qm q80 q79 q6 q8 q10 q12
      subst qm
      obtain ⟨p1, p2, p3, p4, p5, p6⟩ := hpl i hi
      have gA := maskC_get fA hi
      have gB := maskC_get fB hi
      have gC := maskC_get fC hi
      have gD := maskC_get fD hi
      rw [show fA i % 256 = fA i by omega] at gA
      rw [show fB i % 256 = fB i by omega] at gB
      rw [show fC i % 256 = fC i by omega] at gC
      rw [show fD i % 256 = 0 by omega] at gD
      have z1 : ((i : Int) < 16) = True := eq_true (by omega)
      have z2 : (0 ≤ (i : Int)) = True := eq_true (by omega)
      have z3 : IntKind.u8.wrap (fB i + fC i) = fB i + fC i := by rw [wrapB]; omega
      have z4 : (fB i + fC i < fA i) = False := eq_false (by omega)
      have z5 : (16 < fA i) = False := eq_false (by omega)
      have z6 : IntKind.i64.wrap ((i : Int) + 1) = ((i + 1 : Nat) : Int) := wr_nat (by omega)
      try simp only [r5_0, r5_1, r5_2, r5_3, r5_4, r5_5, r5_6, r5_7, r5_8, r5_9, r5_10, r5_11, r5_12, r5_13, r5_14, r5_15, r5_16, c5, F5, l5_0, q80, q79, q6, q8, q10, q12, hoA, hoB, hoC, hoD, gA, gB, gC, gD, z1, z2, z3, z4, z5, z6, Int.toNat_natCast, Nat.mul_one, go_sem, Int.reduceTMod, Int.reduceTDiv, Int.reduceDiv, Int.reduceMod, Int.reduceAdd, Int.reduceSub, Int.reduceMul, Int.reduceNeg, Int.reducePow, Int.reduceEq, ↓reduceIte, Nat.reduceEqDiff, Nat.reduceAdd, Nat.reduceMul, Nat.reduceLeDiff, Nat.reduceSub, Nat.reduceLT, Int.reduceToNat, Int.reduceLT, Int.reduceLE, reduceCtorEq]
      repeat' ((first | refine FK_split (fun h_ => ?_) (fun h_ => ?_) | refine GK_split (fun h_ => ?_) (fun h_ => ?_) | refine ite_both (fun h_ => ?_) (fun h_ => ?_)) <;> (try simp only [decide_eq_true_eq, decide_eq_false_iff_not, Bool.not_true, Bool.not_false, Bool.not_eq_true', Bool.not_eq_false', Bool.not_eq_eq_eq_not, Decidable.not_not] at h_) <;> (try simp only [r5_0, r5_1, r5_2, r5_3, r5_4, r5_5, r5_6, r5_7, r5_8, r5_9, r5_10, r5_11, r5_12, r5_13, r5_14, r5_15, r5_16, c5, F5, l5_0, q80, q79, q6, q8, q10, q12, hoA, hoB, hoC, hoD, gA, gB, gC, gD, z1, z2, z3, z4, z5, z6, Int.toNat_natCast, Nat.mul_one, h_, go_sem, Int.reduceTMod, Int.reduceTDiv, Int.reduceDiv, Int.reduceMod, Int.reduceAdd, Int.reduceSub, Int.reduceMul, Int.reduceNeg, Int.reducePow, Int.reduceEq, ↓reduceIte, Nat.reduceEqDiff, Nat.reduceAdd, Nat.reduceMul, Nat.reduceLeDiff, Nat.reduceSub, Nat.reduceLT, Int.reduceToNat, Int.reduceLT, Int.reduceLE, reduceCtorEq]))
      refine next _ ⟨rfl, ?_, ?_, ?_, ?_, ?_, ?_⟩
      · simp only [go_sem, Int.reduceTMod, Int.reduceTDiv, Int.reduceDiv, Int.reduceMod, Int.reduceAdd, Int.reduceSub, Int.reduceMul, Int.reduceNeg, Int.reducePow, Int.reduceEq, ↓reduceIte, Nat.reduceEqDiff, Nat.reduceAdd, Nat.reduceMul, Nat.reduceLeDiff, Nat.reduceSub, Nat.reduceLT, Int.reduceToNat, Int.reduceLT, Int.reduceLE, reduceCtorEq]
      · simp only [q79, go_sem, Int.reduceTMod, Int.reduceTDiv, Int.reduceDiv, Int.reduceMod, Int.reduceAdd, Int.reduceSub, Int.reduceMul, Int.reduceNeg, Int.reducePow, Int.reduceEq, ↓reduceIte, Nat.reduceEqDiff, Nat.reduceAdd, Nat.reduceMul, Nat.reduceLeDiff, Nat.reduceSub, Nat.reduceLT, Int.reduceToNat, Int.reduceLT, Int.reduceLE, reduceCtorEq]
      · simp only [q6, go_sem, Int.reduceTMod, Int.reduceTDiv, Int.reduceDiv, Int.reduceMod, Int.reduceAdd, Int.reduceSub, Int.reduceMul, Int.reduceNeg, Int.reducePow, Int.reduceEq, ↓reduceIte, Nat.reduceEqDiff, Nat.reduceAdd, Nat.reduceMul, Nat.reduceLeDiff, Nat.reduceSub, Nat.reduceLT, Int.reduceToNat, Int.reduceLT, Int.reduceLE, reduceCtorEq]
      · simp only [q8, go_sem, Int.reduceTMod, Int.reduceTDiv, Int.reduceDiv, Int.reduceMod, Int.reduceAdd, Int.reduceSub, Int.reduceMul, Int.reduceNeg, Int.reducePow, Int.reduceEq, ↓reduceIte, Nat.reduceEqDiff, Nat.reduceAdd, Nat.reduceMul, Nat.reduceLeDiff, Nat.reduceSub, Nat.reduceLT, Int.reduceToNat, Int.reduceLT, Int.reduceLE, reduceCtorEq]
      · simp only [q10, go_sem, Int.reduceTMod, Int.reduceTDiv, Int.reduceDiv, Int.reduceMod, Int.reduceAdd, Int.reduceSub, Int.reduceMul, Int.reduceNeg, Int.reducePow, Int.reduceEq, ↓reduceIte, Nat.reduceEqDiff, Nat.reduceAdd, Nat.reduceMul, Nat.reduceLeDiff, Nat.reduceSub, Nat.reduceLT, Int.reduceToNat, Int.reduceLT, Int.reduceLE, reduceCtorEq]
      · simp only [q12, go_sem, Int.reduceTMod, Int.reduceTDiv, Int.reduceDiv, Int.reduceMod, Int.reduceAdd, Int.reduceSub, Int.reduceMul, Int.reduceNeg, Int.reducePow, Int.reduceEq, ↓reduceIte, Nat.reduceEqDiff, Nat.reduceAdd, Nat.reduceMul, Nat.reduceLeDiff, Nat.reduceSub, Nat.reduceLT, Int.reduceToNat, Int.reduceLT, Int.reduceLE, reduceCtorEq]
    · obtain ⟨e, M, N⟩ := s
      obtain ⟨qm, q80, q79, q6, q8, q10, q12⟩ := hs
      simp only at qm q80 q79 q6 q8 q10 q12
      have z1 : (((16 : Nat) : Int) < 16) = False := eq_false (by omega)
      try simp only [r5_0, r5_1, r5_2, r5_3, r5_4, r5_5, r5_6, r5_7, r5_8, r5_9, r5_10, r5_11, r5_12, r5_13, r5_14, r5_15, r5_16, c5, F5, l5_0, q80, q79, z1, v_awake08, go_sem, Int.reduceTMod, Int.reduceTDiv, Int.reduceDiv, Int.reduceMod, Int.reduceAdd, Int.reduceSub, Int.reduceMul, Int.reduceNeg, Int.reducePow, Int.reduceEq, ↓reduceIte, Nat.reduceEqDiff, Nat.reduceAdd, Nat.reduceMul, Nat.reduceLeDiff, Nat.reduceSub, Nat.reduceLT, Int.reduceToNat, Int.reduceLT, Int.reduceLE, reduceCtorEq]
      repeat' ((first | refine FK_split (fun h_ => ?_) (fun h_ => ?_) | refine GK_split (fun h_ => ?_) (fun h_ => ?_) | refine ite_both (fun h_ => ?_) (fun h_ => ?_)) <;> (try simp only [decide_eq_true_eq, decide_eq_false_iff_not, Bool.not_true, Bool.not_false, Bool.not_eq_true', Bool.not_eq_false', Bool.not_eq_eq_eq_not, Decidable.not_not] at h_) <;> (try simp only [r5_0, r5_1, r5_2, r5_3, r5_4, r5_5, r5_6, r5_7, r5_8, r5_9, r5_10, r5_11, r5_12, r5_13, r5_14, r5_15, r5_16, c5, F5, l5_0, q80, q79, z1, v_awake08, h_, go_sem, Int.reduceTMod, Int.reduceTDiv, Int.reduceDiv, Int.reduceMod, Int.reduceAdd, Int.reduceSub, Int.reduceMul, Int.reduceNeg, Int.reducePow, Int.reduceEq, ↓reduceIte, Nat.reduceEqDiff, Nat.reduceAdd, Nat.reduceMul, Nat.reduceLeDiff, Nat.reduceSub, Nat.reduceLT, Int.reduceToNat, Int.reduceLT, Int.reduceLE, reduceCtorEq]))
    · simp only [go_sem, Int.reduceTMod, Int.reduceTDiv, Int.reduceDiv, Int.reduceMod, Int.reduceAdd, Int.reduceSub, Int.reduceMul, Int.reduceNeg, Int.reducePow, Int.reduceEq, ↓reduceIte, Nat.reduceEqDiff, Nat.reduceAdd, Nat.reduceMul, Nat.reduceLeDiff, Nat.reduceSub, Nat.reduceLT, Int.reduceToNat, Int.reduceLT, Int.reduceLE, reduceCtorEq]
    · simp only [go_sem, Int.reduceTMod, Int.reduceTDiv, Int.reduceDiv, Int.reduceMod, Int.reduceAdd, Int.reduceSub, Int.reduceMul, Int.reduceNeg, Int.reducePow, Int.reduceEq, ↓reduceIte, Nat.reduceEqDiff, Nat.reduceAdd, Nat.reduceMul, Nat.reduceLeDiff, Nat.reduceSub, Nat.reduceLT, Int.reduceToNat, Int.reduceLT, Int.reduceLE, reduceCtorEq]
    · simp only [go_sem, Int.reduceTMod, Int.reduceTDiv, Int.reduceDiv, Int.reduceMod, Int.reduceAdd, Int.reduceSub, Int.reduceMul, Int.reduceNeg, Int.reducePow, Int.reduceEq, ↓reduceIte, Nat.reduceEqDiff, Nat.reduceAdd, Nat.reduceMul, Nat.reduceLeDiff, Nat.reduceSub, Nat.reduceLT, Int.reduceToNat, Int.reduceLT, Int.reduceLE, reduceCtorEq]
    · simp only [go_sem, Int.reduceTMod, Int.reduceTDiv, Int.reduceDiv, Int.reduceMod, Int.reduceAdd, Int.reduceSub, Int.reduceMul, Int.reduceNeg, Int.reducePow, Int.reduceEq, ↓reduceIte, Nat.reduceEqDiff, Nat.reduceAdd, Nat.reduceMul, Nat.reduceLeDiff, Nat.reduceSub, Nat.reduceLT, Int.reduceToNat, Int.reduceLT, Int.reduceLE, reduceCtorEq]
    · simp only [go_sem, Int.reduceTMod, Int.reduceTDiv, Int.reduceDiv, Int.reduceMod, Int.reduceAdd, Int.reduceSub, Int.reduceMul, Int.reduceNeg, Int.reducePow, Int.reduceEq, ↓reduceIte, Nat.reduceEqDiff, Nat.reduceAdd, Nat.reduceMul, Nat.reduceLeDiff, Nat.reduceSub, Nat.reduceLT, Int.reduceToNat, Int.reduceLT, Int.reduceLE, reduceCtorEq]
    · simp only [go_sem, Int.reduceTMod, Int.reduceTDiv, Int.reduceDiv, Int.reduceMod, Int.reduceAdd, Int.reduceSub, Int.reduceMul, Int.reduceNeg, Int.reducePow, Int.reduceEq, ↓reduceIte, Nat.reduceEqDiff, Nat.reduceAdd, Nat.reduceMul, Nat.reduceLeDiff, Nat.reduceSub, Nat.reduceLT, Int.reduceToNat, Int.reduceLT, Int.reduceLE, reduceCtorEq]

/- SyQ: arguments of a law, opened for the evaluator. A plain library of this session's own; conditions: none beyond those that each theorem names. -/
open Go.RowKit Go.ChangeShapes Go.WideShapes Go.Deep

inductive CK where
  | int (k : IntKind)
  | bool

/-- Cells of these kinds. -/
def CksOk : List CK → List Value → Prop
  | [], vs => vs = []
  | .int k :: ks, vs => ∃ n r, vs = .int k n :: r ∧ (k.min ≤ n ∧ n ≤ k.max) ∧ CksOk ks r
  | .bool :: ks, vs => ∃ b r, vs = .bool b :: r ∧ CksOk ks r

def goF (P : Program) (rec : TypeId → Option (List CK)) : List Field → Nat → Option (List CK)
  | [], _ => some []
  | f :: fs, off =>
    match rec f.type with
    | none => none
    | some ks => if f.offset = off ∧ ks.length = P.cellsOf f.type then (goF P rec fs (off + ks.length)).map (ks ++ ·) else none

/-- The kinds of a type's cells, where all are numbers or Bools. -/
def kindsK (P : Program) : Nat → TypeId → Option (List CK)
  | 0, _ => none
  | n + 1, t =>
    match P.underlying t with
    | some (.int k) => some [.int k]
    | some .bool => some [.bool]
    | some (.struct fs) => (goF P (kindsK P n) fs.toList 0).bind fun ks => if ks.length = P.cellsOf t then some ks else none
    | some (.array m e) => (kindsK P n e).bind fun ks => if ks.length = P.cellsOf e ∧ m * ks.length = P.cellsOf t then some (List.replicate m ks).flatten else none
    | _ => none

theorem CksOk.app : ∀ {ks ls : List CK} {a b : List Value}, CksOk ks a → CksOk ls b → CksOk (ks ++ ls) (a ++ b)
  | [], ls, a, b, h, h' => by simp only [CksOk] at h; subst h; exact h'
  | .int k :: ks, ls, a, b, h, h' => by
    obtain ⟨n, r, rfl, h1, h2⟩ := h
    exact ⟨n, r ++ b, rfl, h1, CksOk.app h2 h'⟩
  | .bool :: ks, ls, a, b, h, h' => by
    obtain ⟨n, r, rfl, h2⟩ := h
    exact ⟨n, r ++ b, rfl, CksOk.app h2 h'⟩

theorem CksOk.len : ∀ {ks : List CK} {a : List Value}, CksOk ks a → a.length = ks.length
  | [], a, h => by simp only [CksOk] at h; subst h; rfl
  | .int k :: ks, a, h => by
    obtain ⟨n, r, rfl, h1, h2⟩ := h
    simp [CksOk.len h2]
  | .bool :: ks, a, h => by
    obtain ⟨n, r, rfl, h2⟩ := h
    simp [CksOk.len h2]

theorem CksOk.rel {ρ : Loc} {n : Nat} {w : World} : ∀ {ks : List CK} {a : List Value}, CksOk ks a → CRels ρ n w (a.map .sc) a
  | [], a, h => by simp only [CksOk] at h; subst h; simp [CRels]
  | .int k :: ks, a, h => by
    obtain ⟨m, r, rfl, h1, h2⟩ := h
    simp only [List.map_cons, CRels]
    exact ⟨_, _, rfl, ⟨rfl, rfl⟩, CksOk.rel h2⟩
  | .bool :: ks, a, h => by
    obtain ⟨m, r, rfl, h2⟩ := h
    simp only [List.map_cons, CRels]
    exact ⟨_, _, rfl, ⟨rfl, rfl⟩, CksOk.rel h2⟩

/-- Whatever reads as_ data of the type has these cells. -/
def OpK (P : Program) (T : TypeId) (ks : List CK) : Prop :=
  ∀ (H : Type) (enc : TypeId × Value → H) (w : World) (base : Nat) (spare : Nat → Bool) (held : Bool) (fuel : Nat) (cs : List Value) (x : DataW H × List MemPlace),
    DataW.trod enc P w base spare held fuel T cs = some x → CksOk ks cs

theorem has_of_wf {k : IntKind} {n : Int} (h : (Lit.int k n).wf = true) : k.min ≤ n ∧ n ≤ k.max := by
  simpa only [Lit.wf, Bool.and_eq_true, decide_eq_true_eq] using h

theorem goF_ok {P : Program} {rec : TypeId → Option (List CK)} (hrec : ∀ t ks, rec t = some ks → OpK P t ks) {H : Type} {enc : TypeId × Value → H} {w : World} {base : Nat} {spare : Nat → Bool} {held : Bool} {fuel : Nat} :
    ∀ {fs : List Field} {off : Nat} {ks : List CK} {cs : List Value}, goF P rec fs off = some ks → cs.length = off + ks.length →
      (∀ f ∈ fs, ∃ x, DataW.trod enc P w base spare held fuel f.type ((cs.drop f.offset).take (P.cellsOf f.type)) = some x) → CksOk ks (cs.drop off)
  | [], off, ks, cs, h, hl, hf => by
    simp only [goF, Option.some.injEq] at h
    subst h
    show cs.drop off = []
    exact List.drop_eq_nil_of_le (by simp at hl; omega)
  | f :: fs, off, ks, cs, h, hl, hf => by
    simp only [goF] at h
    split at h
    · cases h
    rename_i ks1 h1
    split at h
    case isFalse => cases h
    rename_i hc
    obtain ⟨ks2, h2, rfl⟩ := Option.map_eq_some_iff.1 h
    obtain ⟨x, hx⟩ := hf f (by simp)
    have h3 := hrec _ _ h1 H enc w base spare held fuel _ _ hx
    rw [hc.1, ← hc.2] at h3
    have h4 := goF_ok hrec (fs := fs) (off := off + ks1.length) (cs := cs) h2 (by simp at hl; omega) (fun g hg => hf g (by simp [hg]))
    have := h3.app h4
    rwa [← List.drop_drop, List.take_append_drop] at this

theorem rep_ok {ks : List CK} : ∀ (m : Nat) (cs : List Value), cs.length = m * ks.length → (∀ i, i < m → CksOk ks ((cs.drop (i * ks.length)).take ks.length)) → CksOk (List.replicate m ks).flatten cs
  | 0, cs, hl, h => by
    simp only [Nat.zero_mul, List.length_eq_zero_iff] at hl
    subst hl
    exact rfl
  | m + 1, cs, hl, h => by
    rw [List.replicate_succ, List.flatten_cons]
    have h0 := h 0 (by omega)
    rw [Nat.zero_mul, List.drop_zero] at h0
    have h1 := rep_ok (ks := ks) m (cs.drop ks.length) (by rw [List.length_drop, hl, Nat.succ_mul]; omega) (fun i hi => by
      have := h (i + 1) (by omega)
      rwa [Nat.succ_mul, Nat.add_comm, ← List.drop_drop] at this)
    have := h0.app h1
    rwa [List.take_append_drop] at this

theorem kindsK_ok {P : Program} : ∀ {k : Nat} {T : TypeId} {ks : List CK}, kindsK P k T = some ks → OpK P T ks
  | 0, T, ks, h => by simp [kindsK] at h
  | k + 1, T, ks, h => by
    intro H enc w base spare held fuel cs x hx
    simp only [kindsK] at h
    split at h
    · rename_i kd ht
      cases h
      obtain ⟨n, rfl, _, hw⟩ := DataW.trod_int ht hx
      exact ⟨n, [], rfl, has_of_wf hw, rfl⟩
    · rename_i ht
      cases h
      obtain ⟨b, rfl, _⟩ := DataW.trod_bool ht hx
      exact ⟨b, [], rfl, rfl⟩
    · rename_i fs ht
      obtain ⟨ks', h1, h2⟩ := Option.bind_eq_some_iff.1 h
      split at h2
      case isFalse => cases h2
      cases h2
      rename_i hlen
      obtain ⟨xs, n, _, _, hl, hxs, hf⟩ := DataW.trod_struct ht hx
      have := goF_ok (fun t ks h => kindsK_ok h) (H := H) (enc := enc) (w := w) (base := base) (spare := spare) (held := held) (fuel := n) (cs := cs) h1 (by rw [hl, hlen]; omega) (fun f hfm => by
        obtain ⟨i, hi, rfl⟩ := List.mem_iff_getElem.1 hfm
        have hi' : i < fs.size := by simpa using hi
        have := hf i fs[i] (by simp [hi'])
        rw [List.getElem?_eq_getElem (by omega)] at this
        exact ⟨_, by simpa using this⟩)
      rwa [List.drop_zero] at this
    · rename_i m e ht
      obtain ⟨ks', h1, h2⟩ := Option.bind_eq_some_iff.1 h
      split at h2
      case isFalse => cases h2
      cases h2
      rename_i hc
      obtain ⟨xs, n, _, _, hl, hxs, hf⟩ := DataW.trod_array ht hx
      refine rep_ok m cs (by rw [hl, hc.2]) (fun i hi => ?_)
      have := hf i hi
      rw [List.getElem?_eq_getElem (by omega), ← hc.1] at this
      exact kindsK_ok h1 H enc w base spare held n _ _ this
    · cases h

/-- A flat argument that is a struct or an array. -/
theorem arg_agg {P : Program} {T : TypeId} {ks : List CK} {k : Nat} (hk : kindsK P k T = some ks) {H : Type} {enc : TypeId × Value → H} {w : World} {base : Nat} {spare : Nat → Bool} {held : Bool} {cs : Array Value} {d : DataW H} {ps : List MemPlace}
    (h : DataW.Trod enc P w base spare held T (.agg cs) d ps) : ∃ l : List Value, cs = l.toArray ∧ CksOk ks l := by
  obtain ⟨fuel, hf⟩ := h
  exact ⟨cs.toList, by simp, kindsK_ok hk H enc w base spare held fuel _ _ hf⟩

theorem arg_int {P : Program} {T : TypeId} {k : IntKind} {w : World} {base : Nat} {v : Value} (ht : P.underlying T = some (.int k)) (h : Value.okWide P w .any base T v) : ∃ n, v = .int k n ∧ k.min ≤ n ∧ n ≤ k.max := by
  simp only [Value.okWide, ht, Cell.okWide] at h
  cases v <;> simp_all [Cell.ok, IntKind.has]

theorem arg_arr {P : Program} {w : World} {r : Reach} {base : Nat} {t e : TypeId} {n : Nat} {v : Value} (ht : P.underlying t = some (.array n e)) (h : Value.okWide P w r base t v) : ∃ cs, v = .agg cs ∧ cs.size = P.cellsOf t := by
  simp only [Value.okWide, ht] at h
  obtain ⟨cs, h1, h2, _⟩ := h
  exact ⟨cs, h1, h2⟩

/-- Rows of cells of these kinds. -/
def RowsOk (ks : List CK) (n : Nat) (vs : List Value) : Prop := CksOk (List.replicate n ks).flatten vs

/-- A slice of flat elements: nil, or a row of cells that stands in the world. -/
theorem arg_slice {P : Program} {T e : TypeId} {ks : List CK} {k : Nat} (ht : P.underlying T = some (.slice e)) (hk : kindsK P k e = some ks) (hc : P.cellsOf e = ks.length) (h0 : ks.length ≠ 0) {H : Type} {enc : TypeId × Value → H} {w : World} {base base' : Nat} {held : Bool} {v : Value} {d : DataW H} {ps : List MemPlace}
    (hv : Value.okWide P w .any base' T v) (h : DataW.Trod enc P w base (fun _ => true) held T v d ps) :
    v = .slice none 0 0 ∨ ∃ b o len cap vs, v = .slice (some ⟨b, o, none⟩) len cap ∧ b < w.heap.size ∧ len ≤ cap ∧ cap ≤ maxLen ∧ RowsOk ks cap vs ∧ ∀ (i : Nat) (x : Value), vs[i]? = some x → w.cell? ⟨b, o + i, none⟩ = some x := by
  obtain ⟨a, len, cap, rfl⟩ := okWide_slice ht hv
  obtain ⟨fuel, hf⟩ := h
  rcases open_slice ht hf with ⟨hcs, _⟩ | ⟨a', len', cap', m, n, D, Pl, hcs, _, hl, hm, hmm, _, hx⟩
  · left
    exact (List.cons.inj hcs).1
  · right
    obtain ⟨rfl, rfl, rfl⟩ := Value.slice.inj (List.cons.inj hcs).1
    rw [if_pos rfl] at hmm
    subst hmm
    have hspot : a'.spot = none ∧ a'.block < w.heap.size := by
      simp only [Value.okWide, ht, Cell.okWide, Cell.ok] at hv
      obtain ⟨_, _, _, h1, row, cells, h2, _⟩ := hv
      refine ⟨h1, ?_⟩
      unfold World.shape? at h2
      split at h2
      · rename_i hb
        exact (Array.getElem?_eq_some_iff.1 hb).1
      · cases h2
    obtain ⟨b, o, sp⟩ := a'
    obtain ⟨rfl, hb⟩ := hspot
    refine ⟨b, o, len, m, (List.range (m * ks.length)).map (fun i => (w.cell? ⟨b, o + i, none⟩).getD (.bool false)), rfl, hb, hl, hm, ?_, ?_⟩
    · refine rep_ok m _ (by simp) (fun i hi => ?_)
      obtain ⟨cs', h1, h2⟩ := hx i hi
      have h3 := kindsK_ok hk H enc w base _ held n _ _ h2
      obtain ⟨_, h4, h5⟩ := World.cells?_some h1
      have hle : i * ks.length + ks.length ≤ m * ks.length := by
        have := Nat.mul_le_mul_right ks.length (show i + 1 ≤ m from hi)
        rwa [Nat.succ_mul] at this
      have : ((List.map (fun i => (w.cell? ⟨b, o + i, none⟩).getD (.bool false)) (List.range (m * ks.length))).drop (i * ks.length)).take ks.length = cs' := by
        refine List.ext_getElem? (fun j => ?_)
        rw [hc] at h4 h5
        by_cases hj : j < ks.length
        · rw [List.getElem?_take_of_lt hj, List.getElem?_drop, List.getElem?_map, List.getElem?_range (by omega)]
          have h6 := h5 j hj
          rw [Deep.add_add] at h6
          have h7 : (⟨b, o, none⟩ : Addr).add (i * ks.length + j) = ⟨b, o + (i * ks.length + j), none⟩ := by
            unfold Addr.add
            split
            · rename_i hz; rw [hz]; rfl
            · rfl
          rw [h7] at h6
          rw [Option.map_some, h6, List.getElem?_eq_getElem (by omega)]
          rfl
        · rw [List.getElem?_eq_none (by simp; omega), List.getElem?_eq_none (by omega)]
      rw [this]
      exact h3
    · intro i x hi
      rw [List.getElem?_map] at hi
      obtain ⟨j, hj, rfl⟩ := Option.map_eq_some_iff.1 hi
      obtain ⟨hj1, rfl⟩ := List.getElem?_eq_some_iff.1 hj
      rw [List.getElem_range] at hj ⊢
      have hj2 : i < m * ks.length := by simpa using hj1
      have hpos : 0 < ks.length := by omega
      have hdm := Nat.div_add_mod i ks.length
      have hmod := Nat.mod_lt i hpos
      have hdiv : i / ks.length < m := Nat.div_lt_of_lt_mul (by rwa [Nat.mul_comm])
      obtain ⟨cs', h1, _⟩ := hx _ hdiv
      obtain ⟨_, h4, h5⟩ := World.cells?_some h1
      rw [hc] at h4 h5
      have h6 := h5 _ hmod
      rw [Deep.add_add] at h6
      have h7 : (⟨b, o, none⟩ : Addr).add (i / ks.length * ks.length + i % ks.length) = ⟨b, o + i, none⟩ := by
        unfold Addr.add
        rw [Nat.mul_comm, hdm]
        split
        · rename_i hz; rw [hz]; rfl
        · rfl
      rw [h7, List.getElem?_eq_getElem (by omega)] at h6
      rw [h6]
      rfl

/-! ### memory -/
def Held (m : Mem) : Prop := ∀ id b, m id = some b → b.own = false
theorem held_none : Held (fun _ => none) := fun _ _ h => by cases h
theorem held_upd {m : Mem} (h : Held m) (k : Nat) (cs : List Cell) : Held (upd m k (some ⟨cs, false⟩)) := by
  intro id b hb
  unfold upd at hb
  split at hb
  · cases hb; rfl
  · exact h id b hb

def atL (ρ : Loc) (n b o : Nat) : Loc := fun id => if id = n then (b, o) else ρ id

theorem atL_le {ρ : Loc} {n : Nat} {w : World} {b o : Nat} : Le ρ n w (atL ρ n b o) (n + 1) w :=
  ⟨by omega, fun id hi => by unfold atL; rw [if_neg (by omega)], fun _ h => h⟩

theorem rows_rel {ρ : Loc} {n : Nat} {w : World} {ks : List CK} {cap : Nat} {vs : List Value} (h : RowsOk ks cap vs) : ∀ (i : Nat) (x : Value), vs[i]? = some x → CRel ρ n w (.sc x) x := by
  intro i x hx
  have h1 : ∀ {ks : List CK} {vs : List Value}, CksOk ks vs → ∀ v ∈ vs, v.oneCell' = true := by
    intro ks vs h
    have hr : CRels ρ n w (vs.map .sc) vs := h.rel
    exact CRels.all_one _ _ hr
  exact ⟨rfl, h1 h x (List.mem_of_getElem? hx)⟩

/-- One row of cells more, held. -/
theorem addRow {ρ : Loc} {n : Nat} {w : World} {m : Mem} (hm : MRel ρ n w m) (hh : Held m) {b o cap : Nat} {ks : List CK} {vs : List Value} (hb : b < w.heap.size) (hr : RowsOk ks cap vs) (hc : ∀ (i : Nat) (x : Value), vs[i]? = some x → w.cell? ⟨b, o + i, none⟩ = some x) :
    MRel (atL ρ n b o) (n + 1) w (upd m n (some ⟨vs.map .sc, false⟩)) := by
  refine ⟨fun id bl h => ?_, fun id bl h => ?_, fun id bl h i c hi => ?_, fun id bl h ho => ?_, fun id bl h ho => ?_⟩
  · unfold upd at h
    split at h
    · omega
    · have := hm.lt id bl h; omega
  · unfold upd at h
    unfold atL
    split at h
    · rename_i he; rw [if_pos he]; exact hb
    · rename_i he; rw [if_neg he]; exact hm.blk id bl h
  · unfold upd at h
    split at h
    · rename_i he
      cases h
      subst he
      rw [List.getElem?_map] at hi
      obtain ⟨x, hx, rfl⟩ := Option.map_eq_some_iff.1 hi
      refine ⟨x, ?_, rows_rel hr i x hx⟩
      unfold atL
      rw [if_pos rfl]
      exact hc i x hx
    · rename_i he
      obtain ⟨v, h1, h2⟩ := hm.cells id bl h i c hi
      refine ⟨v, ?_, CRel.mono atL_le _ _ h2⟩
      unfold atL
      rw [if_neg he]
      exact h1
  · rw [held_upd hh n _ id bl h] at ho; cases ho
  · rw [held_upd hh n _ id bl h] at ho; cases ho

/-- The slice over such a row. -/
theorem addSl {ρ : Loc} {n : Nat} {w : World} {b o len cap sz : Nat} {vs : List Value} (hl : len ≤ cap) (hv : vs.length = cap * sz) (hc : ∀ (i : Nat) (x : Value), vs[i]? = some x → w.cell? ⟨b, o + i, none⟩ = some x) :
    RRel (atL ρ n b o) (n + 1) w (.one (.sl n 0 len none sz)) (.slice (some ⟨b, o, none⟩) len cap) := by
  have h0 : (atL ρ n b o) n = (b, o) := if_pos rfl
  refine ⟨by omega, o, cap, by rw [h0], fun _ => by rw [h0]; rfl, hl, (by intro c h; cases h), fun j hj => ?_⟩
  rw [h0]
  rw [hc j _ (List.getElem?_eq_getElem (by omega))]
  rfl

/- Arguments that are structs with slices in them, opened for the evaluator. Conditions: those that each theorem names. -/
open Go.RowKit Go.ChangeShapes Go.WideShapes Go.Deep
set_option linter.unusedVariables false

/-- What a cell holds that is a slice of flat elements. -/
def SlOk (w : World) (ks : List CK) (v : Value) : Prop :=
  v = .slice none 0 0 ∨ ∃ b o len cap vs, v = .slice (some ⟨b, o, none⟩) len cap ∧ b < w.heap.size ∧ len ≤ cap ∧ cap ≤ maxLen ∧ RowsOk ks cap vs ∧ ∀ (i : Nat) (x : Value), vs[i]? = some x → w.cell? ⟨b, o + i, none⟩ = some x

/-- A struct all of whose fields take one cell. -/
theorem arg_mix {P : Program} {T : TypeId} {fs : Array Field} {ts : List TypeId} (ht : P.underlying T = some (.struct fs)) (hts : P.cellTypes P.depth T = some ts) {H : Type} {enc : TypeId × Value → H} {w : World} {base base' : Nat} {held : Bool} {v : Value} {d : DataW H} {ps : List MemPlace}
    (hv : Value.okWide P w .any base' T v) (h : DataW.Trod enc P w base (fun _ => true) held T v d ps) :
    ∃ cs : List Value, v = .agg cs.toArray ∧ cs.length = P.cellsOf T ∧ ∀ (j : Nat) (f : Field) (c : Value), fs[j]? = some f → P.cellsOf f.type = 1 → (∀ u, ts[f.offset % ts.length]? = some u → u = f.type) → cs[f.offset]? = some c →
      Cell.okWide P w .any base' f.type c ∧ ∃ x fuel, DataW.trod enc P w base (fun _ => true) held fuel f.type [c] = some x := by
  simp only [Value.okWide, ht] at hv
  obtain ⟨cs, rfl, hsz, ts', h1, h2, h3⟩ := hv
  obtain rfl := Option.some.inj (hts.symm.trans h1)
  obtain ⟨fuel, hf⟩ := h
  have hf' : DataW.trod enc P w base (fun _ => true) held fuel T cs.toList = some (d, ps) := hf
  obtain ⟨xs, n, _, _, hl, hxs, hg⟩ := DataW.trod_struct ht hf'
  refine ⟨cs.toList, by simp, by simpa using hsz, fun j f c hj hc1 hu hc => ?_⟩
  obtain ⟨u, hu1, hu2⟩ := h3 f.offset c (by simpa using hc)
  have e := hu u hu1
  subst e
  refine ⟨hu2, ?_⟩
  have h4 := hg j f hj
  rw [hc1] at h4
  have h5 : (cs.toList.drop f.offset).take 1 = [c] := by
    have hlt := (List.getElem?_eq_some_iff.1 hc).1
    rw [List.drop_eq_getElem_cons hlt]
    have := (List.getElem?_eq_some_iff.1 hc).2
    simp [this]
  rw [h5] at h4
  have hjn : j < xs.length := by
    have := (Array.getElem?_eq_some_iff.1 hj).1
    omega
  rw [List.getElem?_eq_getElem hjn] at h4
  exact ⟨_, n, h4⟩

theorem mix_slice {P : Program} {T e : TypeId} {ks : List CK} {k : Nat} (ht : P.underlying T = some (.slice e)) (hk : kindsK P k e = some ks) (hc : P.cellsOf e = ks.length) (h0 : ks.length ≠ 0) {H : Type} {enc : TypeId × Value → H} {w : World} {base base' : Nat} {held : Bool} {c : Value}
    (h : Cell.okWide P w .any base' T c ∧ ∃ x fuel, DataW.trod enc P w base (fun _ => true) held fuel T [c] = some x) : SlOk w ks c := by
  obtain ⟨hv, ⟨d, ps⟩, fuel, hf⟩ := h
  have hv2 : Value.okWide P w .any base' T c := by simp only [Value.okWide, ht]; exact hv
  obtain ⟨a, len, cap, rfl⟩ := okWide_slice ht hv2
  exact arg_slice ht hk hc h0 hv2 ⟨fuel, hf⟩
theorem mix_int {P : Program} {T : TypeId} {k : IntKind} (ht : P.underlying T = some (.int k)) {H : Type} {enc : TypeId × Value → H} {w : World} {base base' : Nat} {held : Bool} {c : Value}
    (h : Cell.okWide P w .any base' T c ∧ ∃ x fuel, DataW.trod enc P w base (fun _ => true) held fuel T [c] = some x) : ∃ n, c = .int k n ∧ k.min ≤ n ∧ n ≤ k.max := by
  obtain ⟨hv, x, fuel, hf⟩ := h
  obtain ⟨n, e, _, hw⟩ := DataW.trod_int ht hf
  obtain rfl := (List.cons.inj e).1
  exact ⟨n, rfl, has_of_wf hw⟩
theorem mix_bool {P : Program} {T : TypeId} (ht : P.underlying T = some .bool) {H : Type} {enc : TypeId × Value → H} {w : World} {base base' : Nat} {held : Bool} {c : Value}
    (h : Cell.okWide P w .any base' T c ∧ ∃ x fuel, DataW.trod enc P w base (fun _ => true) held fuel T [c] = some x) : ∃ b, c = .bool b := by
  obtain ⟨hv, x, fuel, hf⟩ := h
  obtain ⟨b, e, _⟩ := DataW.trod_bool ht hf
  obtain rfl := (List.cons.inj e).1
  exact ⟨b, rfl⟩

/-- A slice cell, laid into the evaluator's memory under the number n. -/
theorem mix_lay {ρ : Loc} {n : Nat} {w : World} {m : Mem} (hm : MRel ρ n w m) (hh : Held m) {ks : List CK} {v : Value} (h : SlOk w ks v) :
    ∃ (ρ' : Loc) (n' : Nat) (m' : Mem) (c : Cell), MRel ρ' n' w m' ∧ Held m' ∧ Le ρ n w ρ' n' w ∧ CRel ρ' n' w c v ∧ (∀ id, id < n → m' id = m id) ∧ n' = n + 1 ∧
      ((c = .sc (.slice none 0 0) ∧ v = .slice none 0 0) ∨ ∃ len cap vs, c = .sl n 0 len none ks.length ∧ len ≤ cap ∧ cap ≤ maxLen ∧ RowsOk ks cap vs ∧ m' n = some ⟨vs.map .sc, false⟩) := by
  rcases h with rfl | ⟨b, o, len, cap, vs, rfl, hb, hl, hm2, hr, hc⟩
  · have hmm : MRel ρ (n + 1) w m := by
      refine ⟨fun id bl h => by have := hm.lt id bl h; omega, hm.blk, fun id bl h i c hi => ?_, hm.soft, hm.apart⟩
      obtain ⟨x, h1, h2⟩ := hm.cells id bl h i c hi
      exact ⟨x, h1, CRel.mono ⟨by omega, fun _ _ => rfl, fun _ h => h⟩ _ _ h2⟩
    exact ⟨ρ, n + 1, m, .sc (.slice none 0 0), hmm, hh, ⟨by omega, fun _ _ => rfl, fun _ h => h⟩, by simp [CRel, Value.oneCell'], fun _ _ => rfl, rfl, Or.inl ⟨rfl, rfl⟩⟩
  · have hlen : vs.length = cap * ks.length := by
      have := hr.len
      simpa using this
    have hs := addSl (ρ := ρ) (n := n) (w := w) (len := len) (sz := ks.length) hl hlen hc
    exact ⟨atL ρ n b o, n + 1, _, .sl n 0 len none ks.length, addRow hm hh hb hr hc, held_upd hh n _, atL_le, hs, fun id hid => upd_ne _ _ (by omega), rfl, Or.inr ⟨len, cap, vs, rfl, hl, hm2, hr, upd_same _ _ _⟩⟩

/- Rows of polygons as_ arguments. Conditions: those that each theorem names. -/
open Go Go.Proofs
open Go.RowKit Go.ChangeShapes Go.WideShapes Go.Deep
set_option linter.unusedVariables false

/-- A cell that is a slice of flat elements, or one without room. -/
def SlE (w : World) (ks : List CK) (v : Value) : Prop := SlOk w ks v ∨ ∃ a, v = .slice (some a) 0 0
theorem trod_sl {P : Program} {T e : TypeId} {ks : List CK} {k : Nat} (ht : P.underlying T = some (.slice e)) (hk : kindsK P k e = some ks) (hc : P.cellsOf e = ks.length) (h0 : ks.length ≠ 0) {H : Type} {enc : TypeId × Value → H} {w : World} {base fuel : Nat} {held : Bool} {v : Value} {y : DataW H × List MemPlace}
    (hf : DataW.trod enc P w base (fun _ => true) held fuel T [v] = some y) : SlE w ks v := by
  rcases open_slice ht hf with ⟨hcs, _⟩ | ⟨a, len, cap, m, n, D, Pl, hcs, _, hl, hm, hmm, _, hx⟩
  · exact Or.inl (Or.inl (List.cons.inj hcs).1)
  have hv := (List.cons.inj hcs).1
  subst hv
  rw [if_pos rfl] at hmm
  subst hmm
  by_cases hz : m = 0
  · subst hz
    obtain rfl : len = 0 := by omega
    exact Or.inr ⟨a, rfl⟩
  refine Or.inl (Or.inr ?_)
  have hspot : a.spot = none ∧ a.block < w.heap.size := by
    obtain ⟨cs', h1, _⟩ := hx 0 (by omega)
    obtain ⟨_, h4, h5⟩ := World.cells?_some h1
    rw [hc] at h4 h5
    have h6 := h5 0 (by omega)
    rw [List.getElem?_eq_getElem (by rw [h4]; omega)] at h6
    have e : (a.add (0 * ks.length)).add 0 = a := by
      rw [Nat.zero_mul]
      simp [Addr.add]
    rw [e] at h6
    unfold World.cell? at h6
    split at h6
    · rename_i c x y hb
      split at h6
      · cases h6
      · rename_i hs
        exact ⟨by simpa using hs, (Array.getElem?_eq_some_iff.1 hb).1⟩
    · cases h6
  obtain ⟨b, o, sp⟩ := a
  obtain ⟨rfl, hb⟩ := hspot
  refine ⟨b, o, len, m, (List.range (m * ks.length)).map (fun i => (w.cell? ⟨b, o + i, none⟩).getD (.bool false)), rfl, hb, hl, hm, ?_, ?_⟩
  · refine rep_ok m _ (by simp) (fun i hi => ?_)
    obtain ⟨cs', h1, h2⟩ := hx i hi
    have h3 := kindsK_ok hk H enc w base _ held n _ _ h2
    obtain ⟨_, h4, h5⟩ := World.cells?_some h1
    have hle : i * ks.length + ks.length ≤ m * ks.length := by
      have := Nat.mul_le_mul_right ks.length (show i + 1 ≤ m from hi)
      rwa [Nat.succ_mul] at this
    have : ((List.map (fun i => (w.cell? ⟨b, o + i, none⟩).getD (.bool false)) (List.range (m * ks.length))).drop (i * ks.length)).take ks.length = cs' := by
      refine List.ext_getElem? (fun j => ?_)
      rw [hc] at h4 h5
      by_cases hj : j < ks.length
      · rw [List.getElem?_take_of_lt hj, List.getElem?_drop, List.getElem?_map, List.getElem?_range (by omega)]
        have h6 := h5 j hj
        rw [Deep.add_add] at h6
        have h7 : (⟨b, o, none⟩ : Addr).add (i * ks.length + j) = ⟨b, o + (i * ks.length + j), none⟩ := by
          unfold Addr.add
          split
          · rename_i hz; rw [hz]; rfl
          · rfl
        rw [h7] at h6
        rw [Option.map_some, h6, List.getElem?_eq_getElem (by omega)]
        rfl
      · rw [List.getElem?_eq_none (by simp; omega), List.getElem?_eq_none (by omega)]
    rw [this]
    exact h3
  · intro i x hi
    rw [List.getElem?_map] at hi
    obtain ⟨j, hj, rfl⟩ := Option.map_eq_some_iff.1 hi
    obtain ⟨hj1, rfl⟩ := List.getElem?_eq_some_iff.1 hj
    rw [List.getElem_range] at hj ⊢
    have hj2 : i < m * ks.length := by simpa using hj1
    have hpos : 0 < ks.length := by omega
    have hdm := Nat.div_add_mod i ks.length
    have hmod := Nat.mod_lt i hpos
    have hdiv : i / ks.length < m := Nat.div_lt_of_lt_mul (by rwa [Nat.mul_comm])
    obtain ⟨cs', h1, _⟩ := hx _ hdiv
    obtain ⟨_, h4, h5⟩ := World.cells?_some h1
    rw [hc] at h4 h5
    have h6 := h5 _ hmod
    rw [Deep.add_add] at h6
    have h7 : (⟨b, o, none⟩ : Addr).add (i / ks.length * ks.length + i % ks.length) = ⟨b, o + i, none⟩ := by
      unfold Addr.add
      rw [Nat.mul_comm, hdm]
      split
      · rename_i hz; rw [hz]; rfl
      · rfl
    rw [h7, List.getElem?_eq_getElem (by omega)] at h6
    rw [h6]
    rfl
/-- A slice of such cells. -/
def NsOk (w : World) (ks : List CK) (v : Value) : Prop :=
  v = .slice none 0 0 ∨ ∃ (b o len cap : Nat) (vs : List Value), v = .slice (some ⟨b, o, none⟩) len cap ∧ b < w.heap.size ∧ len ≤ cap ∧ cap ≤ maxLen ∧ vs.length = cap ∧ ∀ (i : Nat) (x : Value), vs[i]? = some x → w.cell? ⟨b, o + i, none⟩ = some x ∧ SlE w ks x
theorem arg_nest {P : Program} {T t e : TypeId} {ks : List CK} {k : Nat} (hT : P.underlying T = some (.slice t)) (hct : P.cellsOf t = 1) (ht : P.underlying t = some (.slice e)) (hk : kindsK P k e = some ks) (hc : P.cellsOf e = ks.length) (h0 : ks.length ≠ 0) {H : Type} {enc : TypeId × Value → H} {w : World} {base base' : Nat} {held : Bool} {v : Value} {d : DataW H} {ps : List MemPlace}
    (hv : Value.okWide P w .any base' T v) (h : DataW.Trod enc P w base (fun _ => true) held T v d ps) : NsOk w ks v := by
  obtain ⟨a, len, cap, rfl⟩ := okWide_slice hT hv
  obtain ⟨fuel, hf⟩ := h
  rcases open_slice1 hT hct hf with ⟨hcs, _⟩ | ⟨a', len', cap', m, n, V, D, Pl, hcs, _, hl, hm, hmm, _, hx⟩
  · exact Or.inl (List.cons.inj hcs).1
  · right
    obtain ⟨rfl, rfl, rfl⟩ := Value.slice.inj (List.cons.inj hcs).1
    rw [if_pos rfl] at hmm
    subst hmm
    have hspot : a'.spot = none ∧ a'.block < w.heap.size := by
      simp only [Value.okWide, hT, Cell.okWide, Cell.ok] at hv
      obtain ⟨_, _, _, h1, row, cells, h2, _⟩ := hv
      refine ⟨h1, ?_⟩
      unfold World.shape? at h2
      split at h2
      · rename_i hb
        exact (Array.getElem?_eq_some_iff.1 hb).1
      · cases h2
    obtain ⟨b, o, sp⟩ := a'
    obtain ⟨rfl, hb⟩ := hspot
    refine ⟨b, o, len, m, (List.range m).map V, rfl, hb, hl, hm, by simp, fun i x hi => ?_⟩
    rw [List.getElem?_map] at hi
    obtain ⟨j, hj, rfl⟩ := Option.map_eq_some_iff.1 hi
    obtain ⟨hj1, rfl⟩ := List.getElem?_eq_some_iff.1 hj
    rw [List.getElem_range] at hj ⊢
    obtain ⟨h1, h2⟩ := hx i (by simpa using hj1)
    refine ⟨?_, trod_sl ht hk hc h0 h2⟩
    have h7 : (⟨b, o, none⟩ : Addr).add i = ⟨b, o + i, none⟩ := by
      unfold Addr.add
      split
      · rename_i hz; rw [hz]; rfl
      · rfl
    rw [← h7]
    exact h1
abbrev ptK : List CK := [.int .i64, .int .i64]
theorem pts_of {cap : Nat} {vs : List Value} (h : RowsOk ptK cap vs) : ∃ l : List Pt, l.length = cap ∧ vs.map .sc = l.flatMap Pt.cs := by
  unfold RowsOk at h
  induction cap generalizing vs with
  | zero => simp only [List.replicate_zero, List.flatten_nil, CksOk] at h; subst h; exact ⟨[], rfl, rfl⟩
  | succ k ih =>
    rw [List.replicate_succ, List.flatten_cons] at h
    simp only [List.cons_append, List.nil_append, CksOk] at h
    obtain ⟨x0, _, rfl, _, x1, r, rfl, _, h3⟩ := h
    obtain ⟨l, e1, e2⟩ := ih h3
    exact ⟨⟨x0, x1⟩ :: l, by simp [e1], by simp [e2, Pt.cs]⟩
theorem flat_takeP : ∀ (l : List Pt) (k : Nat), (l.flatMap Pt.cs).take (k * 2) = (l.take k).flatMap Pt.cs := by
  intro l
  induction l with
  | nil => intro k; simp
  | cons x l ih =>
    intro k
    cases k with
    | zero => simp
    | succ k =>
      rw [show (k + 1) * 2 = k * 2 + 1 + 1 by omega]
      simp [ih k]
theorem pts_rl {m : Mem} {n : Nat} {c : Cell} {v : Value} (h : (c = .sc (.slice none 0 0) ∧ v = .slice none 0 0) ∨ ∃ len cap vs, c = .sl n 0 len none ptK.length ∧ len ≤ cap ∧ cap ≤ maxLen ∧ RowsOk ptK cap vs ∧ m n = some ⟨vs.map .sc, false⟩) :
    ∃ l : List Pt, RPt m (n + 1) (.one c) l ∧ l.length ≤ maxLen := by
  rcases h with ⟨rfl, _⟩ | ⟨len, cap, vs, rfl, h1, hcm, h2, h3⟩
  · exact ⟨[], Or.inl ⟨rfl, rfl⟩, by simp⟩
  · obtain ⟨l, e1, e2⟩ := pts_of h2
    have hlen : (l.take len).length = len := by rw [List.length_take]; omega
    refine ⟨l.take len, Or.inr ⟨n, 0, none, by rw [hlen]; rfl, by omega, ?_⟩, by omega⟩
    rw [rd_of h3, hlen, e2]
    have e4 : (l.flatMap Pt.cs).length = cap * 2 := by rw [flatMap_len Pt.cs 2 cs2, e1]
    unfold rdB
    rw [if_pos (by show 0 + len * 2 ≤ (l.flatMap Pt.cs).length; rw [e4]; omega), List.drop_zero, flat_takeP]
theorem lay_list {w : World} : ∀ (vs : List Value) {ρ : Loc} {n : Nat} {m : Mem}, MRel ρ n w m → Held m → (∀ x ∈ vs, SlE w ptK x) →
    ∃ (ρ' : Loc) (n' : Nat) (m' : Mem) (cs : List Cell), MRel ρ' n' w m' ∧ Held m' ∧ Le ρ n w ρ' n' w ∧ (∀ id, id < n → m' id = m id) ∧ cs.length = vs.length ∧
      ∀ (i : Nat) (c : Cell) (x : Value), cs[i]? = some c → vs[i]? = some x → CRel ρ' n' w c x ∧ ∃ l, RPe m' n' (.one c) l ∧ l.length ≤ maxLen
  | [], ρ, n, m, hm, hh, _ => ⟨ρ, n, m, [], hm, hh, ⟨Nat.le_refl _, fun _ _ => rfl, fun _ h => h⟩, fun _ _ => rfl, rfl, fun i c x h => by simp at h⟩
  | v :: vs, ρ, n, m, hm, hh, hall => by
    obtain ⟨ρ1, n1, m1, c1, hm1, hh1, le1, hc1, old1, l1, hl1, hb1⟩ : ∃ (ρ1 : Loc) (n1 : Nat) (m1 : Mem) (c1 : Cell), MRel ρ1 n1 w m1 ∧ Held m1 ∧ Le ρ n w ρ1 n1 w ∧ CRel ρ1 n1 w c1 v ∧ (∀ id, id < n → m1 id = m id) ∧ ∃ l, RPe m1 n1 (.one c1) l ∧ l.length ≤ maxLen := by
      rcases hall v (by simp) with h | ⟨a, rfl⟩
      · obtain ⟨ρ', n', m', c, q1, q2, q3, q4, q5, rfl, q6⟩ := mix_lay hm hh h
        obtain ⟨l, r1, r2⟩ := pts_rl q6
        exact ⟨ρ', _, m', c, q1, q2, q3, q4, q5, l, Or.inl r1, r2⟩
      · exact ⟨ρ, n, m, .sc (.slice (some a) 0 0), hm, hh, ⟨Nat.le_refl _, fun _ _ => rfl, fun _ h => h⟩, by simp [CRel, Value.oneCell'], fun _ _ => rfl, [], Or.inr ⟨_, rfl, rfl⟩, by simp⟩
    obtain ⟨ρ2, n2, m2, cs, hm2, hh2, le2, old2, hlen, hcs⟩ := lay_list vs hm1 hh1 (fun x hx => hall x (by simp [hx]))
    refine ⟨ρ2, n2, m2, c1 :: cs, hm2, hh2, le1.trans le2, fun id hid => by rw [old2 id (by have := le1.le; omega)]; exact old1 id hid, by simp [hlen], fun i c x hc hx => ?_⟩
    cases i with
    | zero =>
      simp at hc hx
      subst hc
      subst hx
      exact ⟨CRel.mono le2 _ _ hc1, l1, hl1.keep le2.le (fun id hid => old2 id hid), hb1⟩
    | succ i =>
      simp only [List.getElem?_cons_succ] at hc hx
      exact hcs i c x hc hx
/-- Rows of polygons, laid. -/
theorem nest_lay {ρ : Loc} {n : Nat} {w : World} {m : Mem} (hm : MRel ρ n w m) (hh : Held m) {v : Value} (h : NsOk w ptK v) :
    ∃ (ρ' : Loc) (n' : Nat) (m' : Mem) (c : Cell) (L : List (List Pt)), MRel ρ' n' w m' ∧ Held m' ∧ Le ρ n w ρ' n' w ∧ CRel ρ' n' w c v ∧ (∀ id, id < n → m' id = m id) ∧ RPP m' n' (.one c) L := by
  rcases h with rfl | ⟨b, o, len, cap, vs, rfl, hb, hl, hmx, hlen, hx⟩
  · exact ⟨ρ, n, m, .sc (.slice none 0 0), [], hm, hh, ⟨Nat.le_refl _, fun _ _ => rfl, fun _ h => h⟩, by simp [CRel, Value.oneCell'], fun _ _ => rfl, [], rfl, RL.nil, fun i c l h => by simp at h⟩
  · obtain ⟨ρ1, n1, m1, cs, hm1, hh1, le1, old1, hlen1, hcs⟩ := lay_list vs hm hh (fun x hx' => by
      obtain ⟨i, hi, e⟩ := List.getElem_of_mem hx'
      exact (hx i x (by rw [List.getElem?_eq_getElem hi, e])).2)
    have hmr : MRel (atL ρ1 n1 b o) (n1 + 1) w (upd m1 n1 (some ⟨cs, false⟩)) := by
      refine ⟨fun id bl h => ?_, fun id bl h => ?_, fun id bl h i c hi => ?_, fun id bl h ho => ?_, fun id bl h ho => ?_⟩
      · unfold upd at h
        split at h
        · omega
        · have := hm1.lt id bl h; omega
      · unfold upd at h
        unfold atL
        split at h
        · rename_i he; rw [if_pos he]; exact hb
        · rename_i he; rw [if_neg he]; exact hm1.blk id bl h
      · unfold upd at h
        split at h
        · rename_i he
          cases h
          subst he
          have hi' : i < vs.length := by
            have := (List.getElem?_eq_some_iff.1 hi).1
            simp only at this
            omega
          have hv := List.getElem?_eq_getElem hi'
          obtain ⟨h1, _⟩ := hx i _ hv
          obtain ⟨h2, _⟩ := hcs i c _ hi hv
          refine ⟨_, ?_, CRel.mono atL_le _ _ h2⟩
          unfold atL
          rw [if_pos rfl]
          exact h1
        · rename_i he
          obtain ⟨v, h1, h2⟩ := hm1.cells id bl h i c hi
          refine ⟨v, ?_, CRel.mono atL_le _ _ h2⟩
          unfold atL
          rw [if_neg he]
          exact h1
      · rw [held_upd hh1 n1 _ id bl h] at ho; cases ho
      · rw [held_upd hh1 n1 _ id bl h] at ho; cases ho
    have hs := addSl (ρ := ρ1) (n := n1) (w := w) (b := b) (o := o) (len := len) (cap := cap) (sz := 1) (vs := vs) hl (by omega) (fun i x hi => (hx i x hi).1)
    -- the polygons
    have hpick : ∀ i, i < cs.length → ∃ l, RPe m1 n1 (.one (cs.getD i (.sc (.slice none 0 0)))) l := fun i hi => by
      obtain ⟨_, l, h3, _⟩ := hcs i _ _ (List.getElem?_eq_getElem hi) (List.getElem?_eq_getElem (by omega : i < vs.length))
      exact ⟨l, by simpa [List.getD_eq_getElem?_getD, List.getElem?_eq_getElem hi] using h3⟩
    have hch : ∃ f : Nat → List Pt, ∀ i, i < cs.length → RPe m1 n1 (.one (cs.getD i (.sc (.slice none 0 0)))) (f i) := by
      refine ⟨fun i => if h : i < cs.length then (hpick i h).choose else [], fun i hi => ?_⟩
      simp only [hi, dif_pos]
      exact (hpick i hi).choose_spec
    obtain ⟨f, hf⟩ := hch
    have hkeep : ∀ id, id < n1 → upd m1 n1 (some ⟨cs, false⟩) id = m1 id := fun id hid => upd_ne _ _ (by omega)
    refine ⟨atL ρ1 n1 b o, n1 + 1, _, .sl n1 0 len none 1, (List.range len).map f, hmr, held_upd hh1 n1 _, le1.trans atL_le, hs, fun id hid => by rw [hkeep id (by have := le1.le; omega)]; exact old1 id hid, cs.take len, by simp; omega, ?_, fun i c l hc hl' => ?_⟩
    · refine Or.inr ⟨n1, 0, none, by rw [List.length_take, Nat.min_eq_left (by omega)], by omega, ?_⟩
      rw [rd_of (upd_same _ _ _), List.length_take, Nat.min_eq_left (by omega)]
      unfold rdB
      rw [if_pos (by show 0 + len * 1 ≤ cs.length; omega), List.drop_zero, Nat.mul_one]
      congr 1
      induction cs.take len with
      | nil => rfl
      | cons x xs ih => rw [List.flatMap_cons, ← ih]; rfl
    · have hi : i < len := by
        have := (List.getElem?_eq_some_iff.1 hl').1
        simpa using this
      rw [List.getElem?_take_of_lt hi] at hc
      rw [List.getElem?_map, List.getElem?_range hi] at hl'
      cases hl'
      have hic : i < cs.length := by omega
      have h3 := hf i hic
      rw [List.getD_eq_getElem?_getD, hc] at h3
      exact RPe.keep h3 (by omega) hkeep
set_option maxRecDepth 100000 in
theorem open22 {H : Type} {enc : TypeId × Value → H} {w : World} {base base' : Nat} {held : Bool} {v : Value} {d : DataW H} {ps : List MemPlace} (hv : Value.okWide Try.prog w .any base' 22 v) (h : DataW.Trod enc Try.prog w base (fun _ => true) held 22 v d ps) : NsOk w ptK v :=
  arg_nest (ks := ptK) (k := 8) Try.underlying22 (by kernel_rfl) Try.underlying40 (by kernel_rfl) (by kernel_rfl) (by decide) hv h

end Go.Proofs.Ytkdbnmohpanpfaa.Sy

/- What the library's sort and comparison need at this program's functions: laid. Conditions: none. -/
namespace Go.Proofs
open Go.Shelf
def Try.sortX_ren : Go.Shelf.Ren := ⟨fun | 6 => 43 | 15 => 50 | 14 => 49 | 28 => 70 | 29 => 71 | 20 => 62 | 21 => 63 | 22 => 64 | 23 => 65 | 24 => 66 | 25 => 67 | 26 => 68 | 27 => 69 | 46 => 78 | 47 => 79 | 48 => 80 | 49 => 81 | 50 => 82 | 57 => 86 | n => n, fun | 22 => 61 | 24 => 64 | 25 => 75 | 3 => 3 | 39 => 76 | 0 => 0 | 53 => 107 | 55 => 83 | 4 => 4 | 46 => 101 | 45 => 100 | 50 => 97 | 5 => 5 | 9 => 9 | 66 => 114 | 70 => 118 | 76 => 123 | 77 => 124 | n => n, fun | n => n⟩
theorem Try.sortX : Go.Proofs.SlLaysF0.n6 Try.prog Try.sortX_ren := {
  mixed := by kernel_rfl
  f6 := ⟨Try.f43.name, by decide, Try.func43.trans (congrArg some (by kernel_rfl))⟩
  f14 := ⟨Try.f49.name, by decide, Try.func49.trans (congrArg some (by kernel_rfl))⟩
  f15 := Try.func50.trans (congrArg some (by kernel_rfl))
  f20 := ⟨Try.f62.name, by decide, Try.func62.trans (congrArg some (by kernel_rfl))⟩
  f21 := ⟨Try.f63.name, by decide, Try.func63.trans (congrArg some (by kernel_rfl))⟩
  f22 := ⟨Try.f64.name, by decide, Try.func64.trans (congrArg some (by kernel_rfl))⟩
  f23 := ⟨Try.f65.name, by decide, Try.func65.trans (congrArg some (by kernel_rfl))⟩
  f24 := ⟨Try.f66.name, by decide, Try.func66.trans (congrArg some (by kernel_rfl))⟩
  f25 := ⟨Try.f67.name, by decide, Try.func67.trans (congrArg some (by kernel_rfl))⟩
  f26 := ⟨Try.f68.name, by decide, Try.func68.trans (congrArg some (by kernel_rfl))⟩
  f27 := ⟨Try.f69.name, by decide, Try.func69.trans (congrArg some (by kernel_rfl))⟩
  f28 := Try.func70.trans (congrArg some (by kernel_rfl))
  f29 := Try.func71.trans (congrArg some (by kernel_rfl))
  f46 := ⟨Try.f78.name, by decide, Try.func78.trans (congrArg some (by kernel_rfl))⟩
  f47 := Try.func79.trans (congrArg some (by kernel_rfl))
  f48 := Try.func80.trans (congrArg some (by kernel_rfl))
  f49 := ⟨Try.f81.name, by decide, Try.func81.trans (congrArg some (by kernel_rfl))⟩
  f50 := ⟨Try.f82.name, by decide, Try.func82.trans (congrArg some (by kernel_rfl))⟩
  f57 := ⟨Try.f86.name, by decide, Try.func86.trans (congrArg some (by kernel_rfl))⟩
  t0 := Try.underlying0
  a0 := Try.isAgg0
  z0 := Try.sizeOf0
  v0 := Try.zeroValue0
  t3 := Try.underlying3
  a3 := Try.isAgg3
  z3 := Try.sizeOf3
  v3 := Try.zeroValue3
  t4 := Try.underlying4
  a4 := Try.isAgg4
  z4 := Try.sizeOf4
  v4 := Try.zeroValue4
  t5 := Try.underlying5
  a5 := Try.isAgg5
  z5 := Try.sizeOf5
  v5 := Try.zeroValue5
  t9 := Try.underlying9
  a9 := Try.isAgg9
  z9 := Try.sizeOf9
  v9 := Try.zeroValue9
  t22 := Try.underlying61
  a22 := Try.isAgg61
  z22 := Try.sizeOf61
  v22 := Try.zeroValue61
  t25 := Try.underlying75
  a25 := Try.isAgg75
  z25 := Try.sizeOf75
  v25 := Try.zeroValue75
  t39 := Try.underlying76
  a39 := Try.isAgg76
  z39 := Try.sizeOf76
  v39 := Try.zeroValue76
  t45 := Try.underlying100
  a45 := Try.isAgg100
  z45 := Try.sizeOf100
  v45 := Try.zeroValue100
  t46 := Try.underlying101
  a46 := Try.isAgg101
  z46 := Try.sizeOf101
  v46 := Try.zeroValue101
  t50 := Try.underlying97
  a50 := Try.isAgg97
  z50 := Try.sizeOf97
  v50 := Try.zeroValue97
  t53 := Try.underlying107
  a53 := Try.isAgg107
  z53 := Try.sizeOf107
  v53 := Try.zeroValue107
  t55 := Try.underlying83
  a55 := Try.isAgg83
  z55 := Try.sizeOf83
  v55 := Try.zeroValue83
  t66 := Try.underlying114
  a66 := Try.isAgg114
  z66 := Try.sizeOf114
  v66 := Try.zeroValue114
  t70 := Try.underlying118
  a70 := Try.isAgg118
  z70 := Try.sizeOf118
  v70 := Try.zeroValue118
  t76 := Try.underlying123
  a76 := Try.isAgg123
  z76 := Try.sizeOf123
  v76 := Try.zeroValue123
  t77 := Try.underlying124
  a77 := Try.isAgg124
  z77 := Try.sizeOf124
  v77 := Try.zeroValue124 }
def Try.cmpX_ren : Go.Shelf.Ren := ⟨fun | 5 => 45 | 7 => 51 | n => n, fun | 22 => 3 | 3 => 3 | 4 => 4 | n => n, fun | n => n⟩
theorem Try.cmpX : Go.Proofs.SlLaysC2.n5 Try.prog Try.cmpX_ren := {
  mixed := by kernel_rfl
  f5 := ⟨Try.f45.name, by decide, Try.func45.trans (congrArg some (by kernel_rfl))⟩
  f7 := ⟨Try.f51.name, by decide, Try.func51.trans (congrArg some (by kernel_rfl))⟩
  t3 := Try.underlying3
  a3 := Try.isAgg3
  z3 := Try.sizeOf3
  v3 := Try.zeroValue3
  t4 := Try.underlying4
  a4 := Try.isAgg4
  z4 := Try.sizeOf4
  v4 := Try.zeroValue4
  t22 := Try.underlying3
  a22 := Try.isAgg3
  z22 := Try.sizeOf3
  v22 := Try.zeroValue3 }
end Go.Proofs
