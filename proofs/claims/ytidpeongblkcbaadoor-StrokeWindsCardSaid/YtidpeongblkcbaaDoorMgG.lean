import Derived.Test.YtidpeongblkcbaaDoorMgF
/- A pen along points. Conditions: those that each theorem names. -/
namespace Go.Proofs.YtidpeongblkcbaaDoor.Sy
open Go Go.Proofs
set_option linter.unusedSimpArgs false
set_option linter.unusedVariables false
set_option maxRecDepth 20000
attribute [local go_sem] XK_seq XK_block XK_skip XK_exit XK_ret XK_cond XK_reg XK_dreg XK_ureg KN_seq KN_blk KN_lp KN_chk KN_chku KN_top KN_fin KX_seq KX_lp KX_blk KX_chk KX_top KR_seq KR_blk KR_lp KR_chk KR_top KR_fin FK_true FK_false RK_nil RK_mv RK_pick RK_alloc RK_box RK_build RK_bslice RK_load1 RK_loadA RK_store RK_nilchk RK_bin RK_beq RK_eqv RK_eqnil RK_un RK_conv RK_mkfn RK_mkslice RK_slS RK_slA RK_fadr RK_fld RK_iadrA RK_iadrS RK_idxA RK_ext RK_lenC RK_cap RK_app RK_cpy RK_mn RK_mx RK_len RK_carry RK_clr carryR um0 um1 ThenK_some RK_guard GK_tt GK_ff GK_tf GK_ft GK_none QK_some RK_callQ RK_callZ VK_clo RK_callV
  evalOp evO evOs upd_at unfrz_at putE_some putE_none boolOf_b boolOf_tup Option.map_some evRes pack_one pack_two pack_three pack_none List.getD_cons_zero List.getD_cons_succ getD_nil
  Option.some.injEq exists_eq_left' Reg.cs? fillC setL List.set_cons_zero List.set_cons_succ List.length_cons List.length_nil rd_upd rd_updn rdB wr List.drop_zero List.drop_succ_cons List.take_succ_cons List.take_zero List.getElem?_cons_zero List.getElem?_cons_succ
  ix Int.toNat_zero lenO_sl lenO_nil nadd na_eq na_eq' na_lt na_ee na_ll na_ne na_ne' na_tt
attribute [local go_sem] Reg.flat_one Reg.flat_agg Reg.flat_tup flats_nil flats_cons Cell.flat_sc Cell.flat_ptr List.all_cons List.all_nil disOk safeOk safeR decide_eq_true_eq decide_eq_false_iff_not
  List.map_cons List.map_nil List.cons_append List.nil_append List.append_nil evalOp.capsOf Bool.false_bne Bool.bne_false Bool.true_bne Bool.bne_true bne_self_eq_false beq_self_eq_true Bool.not_not Bool.false_and Bool.and_false Bool.true_or Bool.or_true beq_iff_eq eqCells
  Bool.true_beq Bool.false_beq Bool.not_eq_true' Bool.not_eq_eq_eq_not Bool.not_eq_false' and_false false_and frz_at idOf Option.isSome_some Bool.and_eq_true
attribute [local go_sem] wr_eq bV_add bV_sub bV_mul bV_eql bV_neq bV_lss bV_leq bV_gtr bV_geq bV_quo bV_rem bV_shr bV_shl uV_not uV_neg wrapU bits_and bits_or bits_xor IntKind.bits Nat.min_eq_left Nat.min_eq_right Nat.min_self
attribute [local go_sem] bne_iff_ne Int.cast_ofNat_Int Nat.zero_add Nat.add_zero and_self and_true true_and ne_eq not_false_eq_true not_true_eq_false decide_true decide_false Bool.false_eq_true Bool.not_true Bool.not_false Bool.true_and Bool.and_true Bool.or_false Bool.false_or Bool.and_self

noncomputable def barI (h : Int) (p q : Pt) : Bool × List Pt := (!longQ p q && (barQ p q h).all inP, barQ p q h)
def discI (h : Int) (c : Pt) : Bool × List Pt := ((disc c.x c.y h).all inP, disc c.x c.y h)
noncomputable def barAt (h : Int) (l : List Pt) (i j : Nat) : List (Bool × List Pt) := match l[i]?, l[j]? with
  | some p, some q => [barI h p q]
  | _, _ => []
def discAt (h : Int) (l : List Pt) (c : Bool) (i : Nat) : List (Bool × List Pt) := match l[i]? with
  | some p => if c = true ∨ (0 < i ∧ i + 1 < l.length) then [discI h p] else []
  | none => []
noncomputable def barsTo (h : Int) (l : List Pt) : Nat → List (Bool × List Pt)
  | 0 => []
  | i + 1 => barsTo h l i ++ barAt h l i (i + 1)
def discsTo (h : Int) (l : List Pt) (c : Bool) : Nat → List (Bool × List Pt)
  | 0 => []
  | i + 1 => discsTo h l c i ++ discAt h l c i
noncomputable def alongI (h : Int) (l : List Pt) (c : Bool) : List (Bool × List Pt) := barsTo h l (l.length - 1) ++ (if c = true then barAt h l (l.length - 1) 0 else []) ++ discsTo h l c l.length
theorem barAt_len (h : Int) (l : List Pt) (i j : Nat) : (barAt h l i j).length ≤ 1 := by
  unfold barAt; split <;> simp
theorem discAt_len (h : Int) (l : List Pt) (c : Bool) (i : Nat) : (discAt h l c i).length ≤ 1 := by
  unfold discAt; split
  · split <;> simp
  · simp
theorem barsTo_len (h : Int) (l : List Pt) : ∀ i, (barsTo h l i).length ≤ i
  | 0 => by simp [barsTo]
  | i + 1 => by
    have := barsTo_len h l i
    have := barAt_len h l i (i + 1)
    rw [barsTo, List.length_append]; omega
theorem discsTo_len (h : Int) (l : List Pt) (c : Bool) : ∀ i, (discsTo h l c i).length ≤ i
  | 0 => by simp [discsTo]
  | i + 1 => by
    have := discsTo_len h l c i
    have := discAt_len h l c i
    rw [discsTo, List.length_append]; omega
theorem Pen.low {pid u v : Nat} {h : Int} {its : List (Bool × List Pt)} {co : Cell} {m : Mem} {n : Nat} (hP : Pen pid u v h its co m n) (ha : its.all (·.1) = true) {j : Nat} (hj : sid (.one co) = some j) : pid + 1 ≤ j ∧ j < n := by
  obtain ⟨cs, h1, _, _⟩ := hP.ho ha
  exact h1.sidlt hj
theorem Pen.keep {pid u v : Nat} {h : Int} {its : List (Bool × List Pt)} {co : Cell} {m m' : Mem} {n n' : Nat} (hP : Pen pid u v h its co m n) (hn : n ≤ n') (hm : ∀ id, id < n → m' id = m id) : Pen pid u v h its co m' n' :=
  ⟨by rw [hm _ hP.hl]; exact hP.hp, by have := hP.hl; omega, by have := hP.hu; omega, by have := hP.hv; omega, fun ha => (hP.ho ha).keep hn (fun id _ h _ _ => hm id h)⟩
theorem Pen.after {pid u v : Nat} {h : Int} {its : List (Bool × List Pt)} {co x : Cell} {M m1 : Mem} {N n1 : Nat} {ok : Bool} {l : List Pt} (hP : Pen pid u v h its co M N) (hq : ok = true → RPt m1 n1 (.one x) l ∧ ∀ id, sid (.one x) = some id → N ≤ id) :
    Pen pid u v h its co (unfrz M N m1) (max N n1) ∧ (its.all (·.1) = true → ok = true → RPt (unfrz M N m1) (max N n1) (.one x) l ∧ ∀ id, sid (.one x) = some id → (pid + 1 ≤ id ∧ id ≠ u ∧ id ≠ v) ∧ sid (.one co) ≠ some id) := by
  refine ⟨hP.keep (by omega) (fun id hid => by rw [unfrz_at, if_pos hid]), fun ha hk => ?_⟩
  obtain ⟨h1, h2⟩ := hq hk
  refine ⟨h1.keep' (by omega) (fun id hid => by rw [unfrz_at, if_neg (by have := h2 id hid; omega)]), fun id hid => ⟨by have := h2 id hid; have := hP.hl; have := hP.hu; have := hP.hv; omega, fun e => ?_⟩⟩
  have := hP.low ha e
  have := h2 id hid
  omega
theorem PenF.low {pid u v : Nat} {h : Int} {its : List (Bool × List Pt)} {co : Cell} {m m' : Mem} {n : Nat} (hP : Pen pid u v h its co m n) (hF : PenF pid its co m m' n) : ∀ id, id < pid → m' id = m id := fun id hid =>
  hF id (by have := hP.hl; omega) (by omega) (fun ha e => by have := hP.low ha e; omega)
/-- But for two blocks that it avoids. -/
theorem Pen.keepX {pid u v : Nat} {h : Int} {its : List (Bool × List Pt)} {co : Cell} {m m' : Mem} {n n' : Nat} (hP : Pen pid u v h its co m n) (hn : n ≤ n') (hpu : pid ≠ u) (hpv : pid ≠ v) (hm : ∀ id, id < n → id ≠ u → id ≠ v → m' id = m id) : Pen pid u v h its co m' n' :=
  ⟨by rw [hm _ hP.hl hpu hpv]; exact hP.hp, by have := hP.hl; omega, by have := hP.hu; omega, by have := hP.hv; omega, fun ha => (hP.ho ha).keep hn (fun id _ h k1 k2 => hm id h k1 k2)⟩
theorem Pen.avoid {pid u v u' v' : Nat} {h : Int} {its : List (Bool × List Pt)} {co : Cell} {m : Mem} {n n' : Nat} (hP : Pen pid u v h its co m n) {m' : Mem} (hn : n ≤ n') (hu : n ≤ u' ∨ u' ≤ pid) (hv : n ≤ v' ∨ v' ≤ pid) (hun : u' < n') (hvn : v' < n') (hm : ∀ id, id < n → m' id = m id) : Pen pid u' v' h its co m' n' :=
  ⟨by rw [hm _ hP.hl]; exact hP.hp, by have := hP.hl; omega, hun, hvn, fun ha => ((hP.ho ha).avoid hu hv).keep hn (fun id _ h _ _ => hm id h)⟩
/-- Points that lie below a pen. -/
def Bel (pid : Nat) (r : Reg) : Prop := ∀ id, sid r = some id → id < pid
theorem RL.bel {m m' : Mem} {n n' pid : Nat} {r : Reg} {l : List Pt} (h : RPt m n r l) (hb : Bel pid r) (hn : n ≤ n') (hm : ∀ id, id < pid → m' id = m id) : RPt m' n' r l := h.keep' hn (fun id hid => hm id (hb id hid))
set_option maxHeartbeats 1000000 in
theorem discs_loop {K : Kt} {pid u v : Nat} {h : Int} {its : List (Bool × List Pt)} {co : Cell} {m : Mem} {n : Nat} {r : Reg} {l : List Pt} {c o : Bool} (hP : Pen pid u v h its co m n) (hr : RPt m n r l) (hb : Bel pid r) (h0 : 0 < pid) (hc : m 0 = some ⟨cosT, o⟩)
    (h1 : 1 ≤ h) (h2 : h ≤ 32768) (hin : l.all inP = true) (hl2 : 2 ≤ l.length) (hl : l.length < 1000000) (hits : its.length < 100000000) {e : Nat → Reg} (e55 : e 55 = RI 0) (e54 : e 54 = RI l.length) (e53 : e 53 = r) (e0 : e 0 = .one (.ptr pid 0)) (e6 : e 6 = RI (l.length - 1 : Nat)) (e2 : e 2 = RB c)
    (hK : ∀ s co', n ≤ s.n → (∀ id, id < pid → s.m id = m id) → Pen pid u v h (its ++ discsTo h l c l.length) co' s.m s.n → KX TA K 2 s) :
    XK TA (.loop l39_1) ⟨e, m, n⟩ K := by
  refine XK_iter (inv := fun i s => s.e 55 = RI i ∧ s.e 54 = RI l.length ∧ s.e 53 = r ∧ s.e 0 = .one (.ptr pid 0) ∧ s.e 6 = RI (l.length - 1 : Nat) ∧ s.e 2 = RB c ∧ n ≤ s.n ∧ (∀ id, id < pid → s.m id = m id) ∧ ∃ co', Pen pid u v h (its ++ discsTo h l c i) co' s.m s.n) l.length
    (fun L _ => ⟨fun i hi s hs next => ?_, fun s hs => ?_⟩) 0 (by omega) _ ?_
  · obtain ⟨e, M, N⟩ := s
    obtain ⟨q55, q54, q53, q0, q6, q2, qn, qm, co1, hP1⟩ := hs
    simp only at q55 q54 q53 q0 q6 q2 qn qm hP1
    have hr1 := hr.bel hb qn qm
    have hp : l[i]? = some l[i] := List.getElem?_eq_getElem (by omega)
    obtain ⟨id, off, cap, hra, hid, hrd⟩ := hr1.at cs2 hp
    have ip := all_at hin hp
    have c2 : ((i : Int) < (l.length : Int)) = True := eq_true (by omega)
    have c3 : (0 ≤ (i : Int)) = True := eq_true (by omega)
    have c7 : IntKind.i64.wrap ((i : Int) + 1) = ((i + 1 : Nat) : Int) := wr_nat (by omega)
    have hdl := discsTo_len h l c i
    have hdt : discsTo h l c (i + 1) = discsTo h l c i ++ (if c = true ∨ (0 < i ∧ i + 1 < l.length) then [discI h l[i]] else []) := by
      rw [discsTo, discAt, hp]
    generalize l[i] = p at *
    rw [hra] at q53
    have hidN : id < N := hid
    have n1 := na_0 hidN
    have hpp := hP1.hp
    have hpn := hP1.hl
    have hn2 := na_0 hpn
    have z0 := na_0 (show 0 < N by omega)
    have hm0 : M 0 = some ⟨cosT, o⟩ := by rw [qm 0 h0]; exact hc
    by_cases g : c = true ∨ (0 < i ∧ i + 1 < l.length)
    · rw [if_pos g] at hdt
      cases hcc : c
      · have g' : 0 < i ∧ i + 1 < l.length := by rcases g with g | g; (rw [hcc] at g; cases g); exact g
        have g0' : ((0 : Int) < (i : Int)) = True := eq_true (by omega)
        have g1 : ((i : Int) < ((l.length - 1 : Nat) : Int)) = True := eq_true (by omega)
        subst hcc
        try simp only [r39_0, r39_1, r39_2, r39_3, r39_4, r39_5, r39_6, r39_7, r39_8, r39_9, r39_10, r39_11, r39_12, r39_13, c39, F39, l39_0, l39_1, q55, q54, q53, q0, q6, q2, c2, c3, c7, hrd, n1, hpp, rd_of hpp, hn2, g0', g1, Int.toNat_natCast, go_sem, Int.reduceTMod, Int.reduceTDiv, Int.reduceDiv, Int.reduceMod, Int.reduceAdd, Int.reduceSub, Int.reduceMul, Int.reduceNeg, Int.reducePow, Int.reduceEq, ↓reduceIte, Nat.reduceEqDiff, Nat.reduceAdd, Nat.reduceMul, Nat.reduceLeDiff, Nat.reduceSub, Nat.reduceLT, Int.reduceToNat, Int.reduceLT, Int.reduceLE, reduceCtorEq]
        repeat' ((first | refine FK_split (fun h_ => ?_) (fun h_ => ?_) | refine GK_split (fun h_ => ?_) (fun h_ => ?_) | refine ite_both (fun h_ => ?_) (fun h_ => ?_)) <;> (try simp only [decide_eq_true_eq, decide_eq_false_iff_not, Bool.not_true, Bool.not_false, Bool.not_eq_true', Bool.not_eq_false', Bool.not_eq_eq_eq_not, Decidable.not_not] at h_) <;> (try simp only [r39_0, r39_1, r39_2, r39_3, r39_4, r39_5, r39_6, r39_7, r39_8, r39_9, r39_10, r39_11, r39_12, r39_13, c39, F39, l39_0, l39_1, q55, q54, q53, q0, q6, q2, c2, c3, c7, hrd, n1, hpp, rd_of hpp, hn2, g0', g1, Int.toNat_natCast, h_, go_sem, Int.reduceTMod, Int.reduceTDiv, Int.reduceDiv, Int.reduceMod, Int.reduceAdd, Int.reduceSub, Int.reduceMul, Int.reduceNeg, Int.reducePow, Int.reduceEq, ↓reduceIte, Nat.reduceEqDiff, Nat.reduceAdd, Nat.reduceMul, Nat.reduceLeDiff, Nat.reduceSub, Nat.reduceLT, Int.reduceToNat, Int.reduceLT, Int.reduceLE, reduceCtorEq]))
        refine RK_callk ?_
        refine (w_DiscP ip h1 h2 _ _ (by omega) false (by simp only [hm0, z0, go_sem, Int.reduceTMod, Int.reduceTDiv, Int.reduceDiv, Int.reduceMod, Int.reduceAdd, Int.reduceSub, Int.reduceMul, Int.reduceNeg, Int.reducePow, Int.reduceEq, ↓reduceIte, Nat.reduceEqDiff, Nat.reduceAdd, Nat.reduceMul, Nat.reduceLeDiff, Nat.reduceSub, Nat.reduceLT, Int.reduceToNat, Int.reduceLT, Int.reduceLE, reduceCtorEq])).mono ?_
        rintro r1 m1 n1 ⟨x, kk, rfl, hk, hx⟩
        have hPN := hP1.keep (m' := upd (upd M N (some ⟨[Cell.sc (Value.int .i64 0), Cell.sc (Value.int .i64 0)], true⟩)) N (some ⟨[I p.x, I p.y], true⟩)) (n' := N + 1) (by omega) (fun id hid => by simp only [na_0 hid, go_sem, Int.reduceTMod, Int.reduceTDiv, Int.reduceDiv, Int.reduceMod, Int.reduceAdd, Int.reduceSub, Int.reduceMul, Int.reduceNeg, Int.reducePow, Int.reduceEq, ↓reduceIte, Nat.reduceEqDiff, Nat.reduceAdd, Nat.reduceMul, Nat.reduceLeDiff, Nat.reduceSub, Nat.reduceLT, Int.reduceToNat, Int.reduceLT, Int.reduceLE, reduceCtorEq])
        obtain ⟨hPa, hxa⟩ := hPN.after hx
        try simp only [r39_0, r39_1, r39_2, r39_3, r39_4, r39_5, r39_6, r39_7, r39_8, r39_9, r39_10, r39_11, r39_12, r39_13, c39, F39, go_sem, Int.reduceTMod, Int.reduceTDiv, Int.reduceDiv, Int.reduceMod, Int.reduceAdd, Int.reduceSub, Int.reduceMul, Int.reduceNeg, Int.reducePow, Int.reduceEq, ↓reduceIte, Nat.reduceEqDiff, Nat.reduceAdd, Nat.reduceMul, Nat.reduceLeDiff, Nat.reduceSub, Nat.reduceLT, Int.reduceToNat, Int.reduceLT, Int.reduceLE, reduceCtorEq]
        repeat' ((first | refine FK_split (fun h_ => ?_) (fun h_ => ?_) | refine GK_split (fun h_ => ?_) (fun h_ => ?_) | refine ite_both (fun h_ => ?_) (fun h_ => ?_)) <;> (try simp only [decide_eq_true_eq, decide_eq_false_iff_not, Bool.not_true, Bool.not_false, Bool.not_eq_true', Bool.not_eq_false', Bool.not_eq_eq_eq_not, Decidable.not_not] at h_) <;> (try simp only [r39_0, r39_1, r39_2, r39_3, r39_4, r39_5, r39_6, r39_7, r39_8, r39_9, r39_10, r39_11, r39_12, r39_13, c39, F39, h_, go_sem, Int.reduceTMod, Int.reduceTDiv, Int.reduceDiv, Int.reduceMod, Int.reduceAdd, Int.reduceSub, Int.reduceMul, Int.reduceNeg, Int.reducePow, Int.reduceEq, ↓reduceIte, Nat.reduceEqDiff, Nat.reduceAdd, Nat.reduceMul, Nat.reduceLeDiff, Nat.reduceSub, Nat.reduceLT, Int.reduceToNat, Int.reduceLT, Int.reduceLE, reduceCtorEq]))
        refine RK_callw ?_
        refine (w_leave hk hPa (by rw [List.length_append]; omega) hxa).mono ?_
        rintro r2 m2 n2 ⟨hn2, hF, co2, hP2, _, _⟩
        have hF2 := hF.low hPa
        try simp only [r39_0, r39_1, r39_2, r39_3, r39_4, r39_5, r39_6, r39_7, r39_8, r39_9, r39_10, r39_11, r39_12, r39_13, c39, F39, q55, q54, q53, q0, q6, q2, c7, go_sem, Int.reduceTMod, Int.reduceTDiv, Int.reduceDiv, Int.reduceMod, Int.reduceAdd, Int.reduceSub, Int.reduceMul, Int.reduceNeg, Int.reducePow, Int.reduceEq, ↓reduceIte, Nat.reduceEqDiff, Nat.reduceAdd, Nat.reduceMul, Nat.reduceLeDiff, Nat.reduceSub, Nat.reduceLT, Int.reduceToNat, Int.reduceLT, Int.reduceLE, reduceCtorEq]
        repeat' ((first | refine FK_split (fun h_ => ?_) (fun h_ => ?_) | refine GK_split (fun h_ => ?_) (fun h_ => ?_) | refine ite_both (fun h_ => ?_) (fun h_ => ?_)) <;> (try simp only [decide_eq_true_eq, decide_eq_false_iff_not, Bool.not_true, Bool.not_false, Bool.not_eq_true', Bool.not_eq_false', Bool.not_eq_eq_eq_not, Decidable.not_not] at h_) <;> (try simp only [r39_0, r39_1, r39_2, r39_3, r39_4, r39_5, r39_6, r39_7, r39_8, r39_9, r39_10, r39_11, r39_12, r39_13, c39, F39, q55, q54, q53, q0, q6, q2, c7, h_, go_sem, Int.reduceTMod, Int.reduceTDiv, Int.reduceDiv, Int.reduceMod, Int.reduceAdd, Int.reduceSub, Int.reduceMul, Int.reduceNeg, Int.reducePow, Int.reduceEq, ↓reduceIte, Nat.reduceEqDiff, Nat.reduceAdd, Nat.reduceMul, Nat.reduceLeDiff, Nat.reduceSub, Nat.reduceLT, Int.reduceToNat, Int.reduceLT, Int.reduceLE, reduceCtorEq]))
        refine next _ ⟨?_, ?_, ?_, ?_, ?_, ?_, ?_, ?_, co2, ?_⟩
        · simp only [go_sem, Int.reduceTMod, Int.reduceTDiv, Int.reduceDiv, Int.reduceMod, Int.reduceAdd, Int.reduceSub, Int.reduceMul, Int.reduceNeg, Int.reducePow, Int.reduceEq, ↓reduceIte, Nat.reduceEqDiff, Nat.reduceAdd, Nat.reduceMul, Nat.reduceLeDiff, Nat.reduceSub, Nat.reduceLT, Int.reduceToNat, Int.reduceLT, Int.reduceLE, reduceCtorEq]
        · simp only [q54, go_sem, Int.reduceTMod, Int.reduceTDiv, Int.reduceDiv, Int.reduceMod, Int.reduceAdd, Int.reduceSub, Int.reduceMul, Int.reduceNeg, Int.reducePow, Int.reduceEq, ↓reduceIte, Nat.reduceEqDiff, Nat.reduceAdd, Nat.reduceMul, Nat.reduceLeDiff, Nat.reduceSub, Nat.reduceLT, Int.reduceToNat, Int.reduceLT, Int.reduceLE, reduceCtorEq]
        · simp only [q53, hra, go_sem, Int.reduceTMod, Int.reduceTDiv, Int.reduceDiv, Int.reduceMod, Int.reduceAdd, Int.reduceSub, Int.reduceMul, Int.reduceNeg, Int.reducePow, Int.reduceEq, ↓reduceIte, Nat.reduceEqDiff, Nat.reduceAdd, Nat.reduceMul, Nat.reduceLeDiff, Nat.reduceSub, Nat.reduceLT, Int.reduceToNat, Int.reduceLT, Int.reduceLE, reduceCtorEq]
        · simp only [q0, go_sem, Int.reduceTMod, Int.reduceTDiv, Int.reduceDiv, Int.reduceMod, Int.reduceAdd, Int.reduceSub, Int.reduceMul, Int.reduceNeg, Int.reducePow, Int.reduceEq, ↓reduceIte, Nat.reduceEqDiff, Nat.reduceAdd, Nat.reduceMul, Nat.reduceLeDiff, Nat.reduceSub, Nat.reduceLT, Int.reduceToNat, Int.reduceLT, Int.reduceLE, reduceCtorEq]
        · simp only [q6, go_sem, Int.reduceTMod, Int.reduceTDiv, Int.reduceDiv, Int.reduceMod, Int.reduceAdd, Int.reduceSub, Int.reduceMul, Int.reduceNeg, Int.reducePow, Int.reduceEq, ↓reduceIte, Nat.reduceEqDiff, Nat.reduceAdd, Nat.reduceMul, Nat.reduceLeDiff, Nat.reduceSub, Nat.reduceLT, Int.reduceToNat, Int.reduceLT, Int.reduceLE, reduceCtorEq]
        · simp only [q2, go_sem, Int.reduceTMod, Int.reduceTDiv, Int.reduceDiv, Int.reduceMod, Int.reduceAdd, Int.reduceSub, Int.reduceMul, Int.reduceNeg, Int.reducePow, Int.reduceEq, ↓reduceIte, Nat.reduceEqDiff, Nat.reduceAdd, Nat.reduceMul, Nat.reduceLeDiff, Nat.reduceSub, Nat.reduceLT, Int.reduceToNat, Int.reduceLT, Int.reduceLE, reduceCtorEq]
        · simp only; omega
        · intro id hid
          simp only
          rw [hF2 id hid, unfrz_at, if_pos (by omega)]
          simp only [na_0 (show id < N by omega), qm id hid, go_sem, Int.reduceTMod, Int.reduceTDiv, Int.reduceDiv, Int.reduceMod, Int.reduceAdd, Int.reduceSub, Int.reduceMul, Int.reduceNeg, Int.reducePow, Int.reduceEq, ↓reduceIte, Nat.reduceEqDiff, Nat.reduceAdd, Nat.reduceMul, Nat.reduceLeDiff, Nat.reduceSub, Nat.reduceLT, Int.reduceToNat, Int.reduceLT, Int.reduceLE, reduceCtorEq]
        · rw [hdt, ← List.append_assoc]
          exact hP2
      · skip
        subst hcc
        try simp only [r39_0, r39_1, r39_2, r39_3, r39_4, r39_5, r39_6, r39_7, r39_8, r39_9, r39_10, r39_11, r39_12, r39_13, c39, F39, l39_0, l39_1, q55, q54, q53, q0, q6, q2, c2, c3, c7, hrd, n1, hpp, rd_of hpp, hn2, Int.toNat_natCast, go_sem, Int.reduceTMod, Int.reduceTDiv, Int.reduceDiv, Int.reduceMod, Int.reduceAdd, Int.reduceSub, Int.reduceMul, Int.reduceNeg, Int.reducePow, Int.reduceEq, ↓reduceIte, Nat.reduceEqDiff, Nat.reduceAdd, Nat.reduceMul, Nat.reduceLeDiff, Nat.reduceSub, Nat.reduceLT, Int.reduceToNat, Int.reduceLT, Int.reduceLE, reduceCtorEq]
        repeat' ((first | refine FK_split (fun h_ => ?_) (fun h_ => ?_) | refine GK_split (fun h_ => ?_) (fun h_ => ?_) | refine ite_both (fun h_ => ?_) (fun h_ => ?_)) <;> (try simp only [decide_eq_true_eq, decide_eq_false_iff_not, Bool.not_true, Bool.not_false, Bool.not_eq_true', Bool.not_eq_false', Bool.not_eq_eq_eq_not, Decidable.not_not] at h_) <;> (try simp only [r39_0, r39_1, r39_2, r39_3, r39_4, r39_5, r39_6, r39_7, r39_8, r39_9, r39_10, r39_11, r39_12, r39_13, c39, F39, l39_0, l39_1, q55, q54, q53, q0, q6, q2, c2, c3, c7, hrd, n1, hpp, rd_of hpp, hn2, Int.toNat_natCast, h_, go_sem, Int.reduceTMod, Int.reduceTDiv, Int.reduceDiv, Int.reduceMod, Int.reduceAdd, Int.reduceSub, Int.reduceMul, Int.reduceNeg, Int.reducePow, Int.reduceEq, ↓reduceIte, Nat.reduceEqDiff, Nat.reduceAdd, Nat.reduceMul, Nat.reduceLeDiff, Nat.reduceSub, Nat.reduceLT, Int.reduceToNat, Int.reduceLT, Int.reduceLE, reduceCtorEq]))
        refine RK_callk ?_
        refine (w_DiscP ip h1 h2 _ _ (by omega) false (by simp only [hm0, z0, go_sem, Int.reduceTMod, Int.reduceTDiv, Int.reduceDiv, Int.reduceMod, Int.reduceAdd, Int.reduceSub, Int.reduceMul, Int.reduceNeg, Int.reducePow, Int.reduceEq, ↓reduceIte, Nat.reduceEqDiff, Nat.reduceAdd, Nat.reduceMul, Nat.reduceLeDiff, Nat.reduceSub, Nat.reduceLT, Int.reduceToNat, Int.reduceLT, Int.reduceLE, reduceCtorEq])).mono ?_
        rintro r1 m1 n1 ⟨x, kk, rfl, hk, hx⟩
        have hPN := hP1.keep (m' := upd (upd M N (some ⟨[Cell.sc (Value.int .i64 0), Cell.sc (Value.int .i64 0)], true⟩)) N (some ⟨[I p.x, I p.y], true⟩)) (n' := N + 1) (by omega) (fun id hid => by simp only [na_0 hid, go_sem, Int.reduceTMod, Int.reduceTDiv, Int.reduceDiv, Int.reduceMod, Int.reduceAdd, Int.reduceSub, Int.reduceMul, Int.reduceNeg, Int.reducePow, Int.reduceEq, ↓reduceIte, Nat.reduceEqDiff, Nat.reduceAdd, Nat.reduceMul, Nat.reduceLeDiff, Nat.reduceSub, Nat.reduceLT, Int.reduceToNat, Int.reduceLT, Int.reduceLE, reduceCtorEq])
        obtain ⟨hPa, hxa⟩ := hPN.after hx
        try simp only [r39_0, r39_1, r39_2, r39_3, r39_4, r39_5, r39_6, r39_7, r39_8, r39_9, r39_10, r39_11, r39_12, r39_13, c39, F39, go_sem, Int.reduceTMod, Int.reduceTDiv, Int.reduceDiv, Int.reduceMod, Int.reduceAdd, Int.reduceSub, Int.reduceMul, Int.reduceNeg, Int.reducePow, Int.reduceEq, ↓reduceIte, Nat.reduceEqDiff, Nat.reduceAdd, Nat.reduceMul, Nat.reduceLeDiff, Nat.reduceSub, Nat.reduceLT, Int.reduceToNat, Int.reduceLT, Int.reduceLE, reduceCtorEq]
        repeat' ((first | refine FK_split (fun h_ => ?_) (fun h_ => ?_) | refine GK_split (fun h_ => ?_) (fun h_ => ?_) | refine ite_both (fun h_ => ?_) (fun h_ => ?_)) <;> (try simp only [decide_eq_true_eq, decide_eq_false_iff_not, Bool.not_true, Bool.not_false, Bool.not_eq_true', Bool.not_eq_false', Bool.not_eq_eq_eq_not, Decidable.not_not] at h_) <;> (try simp only [r39_0, r39_1, r39_2, r39_3, r39_4, r39_5, r39_6, r39_7, r39_8, r39_9, r39_10, r39_11, r39_12, r39_13, c39, F39, h_, go_sem, Int.reduceTMod, Int.reduceTDiv, Int.reduceDiv, Int.reduceMod, Int.reduceAdd, Int.reduceSub, Int.reduceMul, Int.reduceNeg, Int.reducePow, Int.reduceEq, ↓reduceIte, Nat.reduceEqDiff, Nat.reduceAdd, Nat.reduceMul, Nat.reduceLeDiff, Nat.reduceSub, Nat.reduceLT, Int.reduceToNat, Int.reduceLT, Int.reduceLE, reduceCtorEq]))
        refine RK_callw ?_
        refine (w_leave hk hPa (by rw [List.length_append]; omega) hxa).mono ?_
        rintro r2 m2 n2 ⟨hn2, hF, co2, hP2, _, _⟩
        have hF2 := hF.low hPa
        try simp only [r39_0, r39_1, r39_2, r39_3, r39_4, r39_5, r39_6, r39_7, r39_8, r39_9, r39_10, r39_11, r39_12, r39_13, c39, F39, q55, q54, q53, q0, q6, q2, c7, go_sem, Int.reduceTMod, Int.reduceTDiv, Int.reduceDiv, Int.reduceMod, Int.reduceAdd, Int.reduceSub, Int.reduceMul, Int.reduceNeg, Int.reducePow, Int.reduceEq, ↓reduceIte, Nat.reduceEqDiff, Nat.reduceAdd, Nat.reduceMul, Nat.reduceLeDiff, Nat.reduceSub, Nat.reduceLT, Int.reduceToNat, Int.reduceLT, Int.reduceLE, reduceCtorEq]
        repeat' ((first | refine FK_split (fun h_ => ?_) (fun h_ => ?_) | refine GK_split (fun h_ => ?_) (fun h_ => ?_) | refine ite_both (fun h_ => ?_) (fun h_ => ?_)) <;> (try simp only [decide_eq_true_eq, decide_eq_false_iff_not, Bool.not_true, Bool.not_false, Bool.not_eq_true', Bool.not_eq_false', Bool.not_eq_eq_eq_not, Decidable.not_not] at h_) <;> (try simp only [r39_0, r39_1, r39_2, r39_3, r39_4, r39_5, r39_6, r39_7, r39_8, r39_9, r39_10, r39_11, r39_12, r39_13, c39, F39, q55, q54, q53, q0, q6, q2, c7, h_, go_sem, Int.reduceTMod, Int.reduceTDiv, Int.reduceDiv, Int.reduceMod, Int.reduceAdd, Int.reduceSub, Int.reduceMul, Int.reduceNeg, Int.reducePow, Int.reduceEq, ↓reduceIte, Nat.reduceEqDiff, Nat.reduceAdd, Nat.reduceMul, Nat.reduceLeDiff, Nat.reduceSub, Nat.reduceLT, Int.reduceToNat, Int.reduceLT, Int.reduceLE, reduceCtorEq]))
        refine next _ ⟨?_, ?_, ?_, ?_, ?_, ?_, ?_, ?_, co2, ?_⟩
        · simp only [go_sem, Int.reduceTMod, Int.reduceTDiv, Int.reduceDiv, Int.reduceMod, Int.reduceAdd, Int.reduceSub, Int.reduceMul, Int.reduceNeg, Int.reducePow, Int.reduceEq, ↓reduceIte, Nat.reduceEqDiff, Nat.reduceAdd, Nat.reduceMul, Nat.reduceLeDiff, Nat.reduceSub, Nat.reduceLT, Int.reduceToNat, Int.reduceLT, Int.reduceLE, reduceCtorEq]
        · simp only [q54, go_sem, Int.reduceTMod, Int.reduceTDiv, Int.reduceDiv, Int.reduceMod, Int.reduceAdd, Int.reduceSub, Int.reduceMul, Int.reduceNeg, Int.reducePow, Int.reduceEq, ↓reduceIte, Nat.reduceEqDiff, Nat.reduceAdd, Nat.reduceMul, Nat.reduceLeDiff, Nat.reduceSub, Nat.reduceLT, Int.reduceToNat, Int.reduceLT, Int.reduceLE, reduceCtorEq]
        · simp only [q53, hra, go_sem, Int.reduceTMod, Int.reduceTDiv, Int.reduceDiv, Int.reduceMod, Int.reduceAdd, Int.reduceSub, Int.reduceMul, Int.reduceNeg, Int.reducePow, Int.reduceEq, ↓reduceIte, Nat.reduceEqDiff, Nat.reduceAdd, Nat.reduceMul, Nat.reduceLeDiff, Nat.reduceSub, Nat.reduceLT, Int.reduceToNat, Int.reduceLT, Int.reduceLE, reduceCtorEq]
        · simp only [q0, go_sem, Int.reduceTMod, Int.reduceTDiv, Int.reduceDiv, Int.reduceMod, Int.reduceAdd, Int.reduceSub, Int.reduceMul, Int.reduceNeg, Int.reducePow, Int.reduceEq, ↓reduceIte, Nat.reduceEqDiff, Nat.reduceAdd, Nat.reduceMul, Nat.reduceLeDiff, Nat.reduceSub, Nat.reduceLT, Int.reduceToNat, Int.reduceLT, Int.reduceLE, reduceCtorEq]
        · simp only [q6, go_sem, Int.reduceTMod, Int.reduceTDiv, Int.reduceDiv, Int.reduceMod, Int.reduceAdd, Int.reduceSub, Int.reduceMul, Int.reduceNeg, Int.reducePow, Int.reduceEq, ↓reduceIte, Nat.reduceEqDiff, Nat.reduceAdd, Nat.reduceMul, Nat.reduceLeDiff, Nat.reduceSub, Nat.reduceLT, Int.reduceToNat, Int.reduceLT, Int.reduceLE, reduceCtorEq]
        · simp only [q2, go_sem, Int.reduceTMod, Int.reduceTDiv, Int.reduceDiv, Int.reduceMod, Int.reduceAdd, Int.reduceSub, Int.reduceMul, Int.reduceNeg, Int.reducePow, Int.reduceEq, ↓reduceIte, Nat.reduceEqDiff, Nat.reduceAdd, Nat.reduceMul, Nat.reduceLeDiff, Nat.reduceSub, Nat.reduceLT, Int.reduceToNat, Int.reduceLT, Int.reduceLE, reduceCtorEq]
        · simp only; omega
        · intro id hid
          simp only
          rw [hF2 id hid, unfrz_at, if_pos (by omega)]
          simp only [na_0 (show id < N by omega), qm id hid, go_sem, Int.reduceTMod, Int.reduceTDiv, Int.reduceDiv, Int.reduceMod, Int.reduceAdd, Int.reduceSub, Int.reduceMul, Int.reduceNeg, Int.reducePow, Int.reduceEq, ↓reduceIte, Nat.reduceEqDiff, Nat.reduceAdd, Nat.reduceMul, Nat.reduceLeDiff, Nat.reduceSub, Nat.reduceLT, Int.reduceToNat, Int.reduceLT, Int.reduceLE, reduceCtorEq]
        · rw [hdt, ← List.append_assoc]
          exact hP2
    · rw [if_neg g] at hdt
      have gc : c = false := by cases c; rfl; exact absurd (Or.inl rfl) g
      subst gc
      by_cases g0 : 0 < i
      · have g1 : ((i : Int) < ((l.length - 1 : Nat) : Int)) = False := eq_false (fun h => g (Or.inr ⟨g0, by omega⟩))
        have g0' : ((0 : Int) < (i : Int)) = True := eq_true (by omega)
        try simp only [r39_0, r39_1, r39_2, r39_3, r39_4, r39_5, r39_6, r39_7, r39_8, r39_9, r39_10, r39_11, r39_12, r39_13, c39, F39, l39_0, l39_1, q55, q54, q53, q0, q6, q2, c2, c3, c7, hrd, n1, g1, g0', Int.toNat_natCast, go_sem, Int.reduceTMod, Int.reduceTDiv, Int.reduceDiv, Int.reduceMod, Int.reduceAdd, Int.reduceSub, Int.reduceMul, Int.reduceNeg, Int.reducePow, Int.reduceEq, ↓reduceIte, Nat.reduceEqDiff, Nat.reduceAdd, Nat.reduceMul, Nat.reduceLeDiff, Nat.reduceSub, Nat.reduceLT, Int.reduceToNat, Int.reduceLT, Int.reduceLE, reduceCtorEq]
        repeat' ((first | refine FK_split (fun h_ => ?_) (fun h_ => ?_) | refine GK_split (fun h_ => ?_) (fun h_ => ?_) | refine ite_both (fun h_ => ?_) (fun h_ => ?_)) <;> (try simp only [decide_eq_true_eq, decide_eq_false_iff_not, Bool.not_true, Bool.not_false, Bool.not_eq_true', Bool.not_eq_false', Bool.not_eq_eq_eq_not, Decidable.not_not] at h_) <;> (try simp only [r39_0, r39_1, r39_2, r39_3, r39_4, r39_5, r39_6, r39_7, r39_8, r39_9, r39_10, r39_11, r39_12, r39_13, c39, F39, l39_0, l39_1, q55, q54, q53, q0, q6, q2, c2, c3, c7, hrd, n1, g1, g0', Int.toNat_natCast, h_, go_sem, Int.reduceTMod, Int.reduceTDiv, Int.reduceDiv, Int.reduceMod, Int.reduceAdd, Int.reduceSub, Int.reduceMul, Int.reduceNeg, Int.reducePow, Int.reduceEq, ↓reduceIte, Nat.reduceEqDiff, Nat.reduceAdd, Nat.reduceMul, Nat.reduceLeDiff, Nat.reduceSub, Nat.reduceLT, Int.reduceToNat, Int.reduceLT, Int.reduceLE, reduceCtorEq]))
        refine next _ ⟨?_, ?_, ?_, ?_, ?_, ?_, ?_, ?_, co1, ?_⟩
        · simp only [go_sem, Int.reduceTMod, Int.reduceTDiv, Int.reduceDiv, Int.reduceMod, Int.reduceAdd, Int.reduceSub, Int.reduceMul, Int.reduceNeg, Int.reducePow, Int.reduceEq, ↓reduceIte, Nat.reduceEqDiff, Nat.reduceAdd, Nat.reduceMul, Nat.reduceLeDiff, Nat.reduceSub, Nat.reduceLT, Int.reduceToNat, Int.reduceLT, Int.reduceLE, reduceCtorEq]
        · simp only [q54, go_sem, Int.reduceTMod, Int.reduceTDiv, Int.reduceDiv, Int.reduceMod, Int.reduceAdd, Int.reduceSub, Int.reduceMul, Int.reduceNeg, Int.reducePow, Int.reduceEq, ↓reduceIte, Nat.reduceEqDiff, Nat.reduceAdd, Nat.reduceMul, Nat.reduceLeDiff, Nat.reduceSub, Nat.reduceLT, Int.reduceToNat, Int.reduceLT, Int.reduceLE, reduceCtorEq]
        · simp only [q53, hra, go_sem, Int.reduceTMod, Int.reduceTDiv, Int.reduceDiv, Int.reduceMod, Int.reduceAdd, Int.reduceSub, Int.reduceMul, Int.reduceNeg, Int.reducePow, Int.reduceEq, ↓reduceIte, Nat.reduceEqDiff, Nat.reduceAdd, Nat.reduceMul, Nat.reduceLeDiff, Nat.reduceSub, Nat.reduceLT, Int.reduceToNat, Int.reduceLT, Int.reduceLE, reduceCtorEq]
        · simp only [q0, go_sem, Int.reduceTMod, Int.reduceTDiv, Int.reduceDiv, Int.reduceMod, Int.reduceAdd, Int.reduceSub, Int.reduceMul, Int.reduceNeg, Int.reducePow, Int.reduceEq, ↓reduceIte, Nat.reduceEqDiff, Nat.reduceAdd, Nat.reduceMul, Nat.reduceLeDiff, Nat.reduceSub, Nat.reduceLT, Int.reduceToNat, Int.reduceLT, Int.reduceLE, reduceCtorEq]
        · simp only [q6, go_sem, Int.reduceTMod, Int.reduceTDiv, Int.reduceDiv, Int.reduceMod, Int.reduceAdd, Int.reduceSub, Int.reduceMul, Int.reduceNeg, Int.reducePow, Int.reduceEq, ↓reduceIte, Nat.reduceEqDiff, Nat.reduceAdd, Nat.reduceMul, Nat.reduceLeDiff, Nat.reduceSub, Nat.reduceLT, Int.reduceToNat, Int.reduceLT, Int.reduceLE, reduceCtorEq]
        · simp only [q2, go_sem, Int.reduceTMod, Int.reduceTDiv, Int.reduceDiv, Int.reduceMod, Int.reduceAdd, Int.reduceSub, Int.reduceMul, Int.reduceNeg, Int.reducePow, Int.reduceEq, ↓reduceIte, Nat.reduceEqDiff, Nat.reduceAdd, Nat.reduceMul, Nat.reduceLeDiff, Nat.reduceSub, Nat.reduceLT, Int.reduceToNat, Int.reduceLT, Int.reduceLE, reduceCtorEq]
        · simp only; omega
        · intro id hid
          simp only [na_0 (show id < N by omega), qm id hid, go_sem, Int.reduceTMod, Int.reduceTDiv, Int.reduceDiv, Int.reduceMod, Int.reduceAdd, Int.reduceSub, Int.reduceMul, Int.reduceNeg, Int.reducePow, Int.reduceEq, ↓reduceIte, Nat.reduceEqDiff, Nat.reduceAdd, Nat.reduceMul, Nat.reduceLeDiff, Nat.reduceSub, Nat.reduceLT, Int.reduceToNat, Int.reduceLT, Int.reduceLE, reduceCtorEq]
        · rw [hdt, List.append_nil]
          exact hP1.keep (by simp only; omega) (fun id hid => by simp only [na_0 hid, go_sem, Int.reduceTMod, Int.reduceTDiv, Int.reduceDiv, Int.reduceMod, Int.reduceAdd, Int.reduceSub, Int.reduceMul, Int.reduceNeg, Int.reducePow, Int.reduceEq, ↓reduceIte, Nat.reduceEqDiff, Nat.reduceAdd, Nat.reduceMul, Nat.reduceLeDiff, Nat.reduceSub, Nat.reduceLT, Int.reduceToNat, Int.reduceLT, Int.reduceLE, reduceCtorEq])
      · have g0' : ((0 : Int) < (i : Int)) = False := eq_false (by omega)
        try simp only [r39_0, r39_1, r39_2, r39_3, r39_4, r39_5, r39_6, r39_7, r39_8, r39_9, r39_10, r39_11, r39_12, r39_13, c39, F39, l39_0, l39_1, q55, q54, q53, q0, q6, q2, c2, c3, c7, hrd, n1, g0', Int.toNat_natCast, go_sem, Int.reduceTMod, Int.reduceTDiv, Int.reduceDiv, Int.reduceMod, Int.reduceAdd, Int.reduceSub, Int.reduceMul, Int.reduceNeg, Int.reducePow, Int.reduceEq, ↓reduceIte, Nat.reduceEqDiff, Nat.reduceAdd, Nat.reduceMul, Nat.reduceLeDiff, Nat.reduceSub, Nat.reduceLT, Int.reduceToNat, Int.reduceLT, Int.reduceLE, reduceCtorEq]
        repeat' ((first | refine FK_split (fun h_ => ?_) (fun h_ => ?_) | refine GK_split (fun h_ => ?_) (fun h_ => ?_) | refine ite_both (fun h_ => ?_) (fun h_ => ?_)) <;> (try simp only [decide_eq_true_eq, decide_eq_false_iff_not, Bool.not_true, Bool.not_false, Bool.not_eq_true', Bool.not_eq_false', Bool.not_eq_eq_eq_not, Decidable.not_not] at h_) <;> (try simp only [r39_0, r39_1, r39_2, r39_3, r39_4, r39_5, r39_6, r39_7, r39_8, r39_9, r39_10, r39_11, r39_12, r39_13, c39, F39, l39_0, l39_1, q55, q54, q53, q0, q6, q2, c2, c3, c7, hrd, n1, g0', Int.toNat_natCast, h_, go_sem, Int.reduceTMod, Int.reduceTDiv, Int.reduceDiv, Int.reduceMod, Int.reduceAdd, Int.reduceSub, Int.reduceMul, Int.reduceNeg, Int.reducePow, Int.reduceEq, ↓reduceIte, Nat.reduceEqDiff, Nat.reduceAdd, Nat.reduceMul, Nat.reduceLeDiff, Nat.reduceSub, Nat.reduceLT, Int.reduceToNat, Int.reduceLT, Int.reduceLE, reduceCtorEq]))
        refine next _ ⟨?_, ?_, ?_, ?_, ?_, ?_, ?_, ?_, co1, ?_⟩
        · simp only [go_sem, Int.reduceTMod, Int.reduceTDiv, Int.reduceDiv, Int.reduceMod, Int.reduceAdd, Int.reduceSub, Int.reduceMul, Int.reduceNeg, Int.reducePow, Int.reduceEq, ↓reduceIte, Nat.reduceEqDiff, Nat.reduceAdd, Nat.reduceMul, Nat.reduceLeDiff, Nat.reduceSub, Nat.reduceLT, Int.reduceToNat, Int.reduceLT, Int.reduceLE, reduceCtorEq]
        · simp only [q54, go_sem, Int.reduceTMod, Int.reduceTDiv, Int.reduceDiv, Int.reduceMod, Int.reduceAdd, Int.reduceSub, Int.reduceMul, Int.reduceNeg, Int.reducePow, Int.reduceEq, ↓reduceIte, Nat.reduceEqDiff, Nat.reduceAdd, Nat.reduceMul, Nat.reduceLeDiff, Nat.reduceSub, Nat.reduceLT, Int.reduceToNat, Int.reduceLT, Int.reduceLE, reduceCtorEq]
        · simp only [q53, hra, go_sem, Int.reduceTMod, Int.reduceTDiv, Int.reduceDiv, Int.reduceMod, Int.reduceAdd, Int.reduceSub, Int.reduceMul, Int.reduceNeg, Int.reducePow, Int.reduceEq, ↓reduceIte, Nat.reduceEqDiff, Nat.reduceAdd, Nat.reduceMul, Nat.reduceLeDiff, Nat.reduceSub, Nat.reduceLT, Int.reduceToNat, Int.reduceLT, Int.reduceLE, reduceCtorEq]
        · simp only [q0, go_sem, Int.reduceTMod, Int.reduceTDiv, Int.reduceDiv, Int.reduceMod, Int.reduceAdd, Int.reduceSub, Int.reduceMul, Int.reduceNeg, Int.reducePow, Int.reduceEq, ↓reduceIte, Nat.reduceEqDiff, Nat.reduceAdd, Nat.reduceMul, Nat.reduceLeDiff, Nat.reduceSub, Nat.reduceLT, Int.reduceToNat, Int.reduceLT, Int.reduceLE, reduceCtorEq]
        · simp only [q6, go_sem, Int.reduceTMod, Int.reduceTDiv, Int.reduceDiv, Int.reduceMod, Int.reduceAdd, Int.reduceSub, Int.reduceMul, Int.reduceNeg, Int.reducePow, Int.reduceEq, ↓reduceIte, Nat.reduceEqDiff, Nat.reduceAdd, Nat.reduceMul, Nat.reduceLeDiff, Nat.reduceSub, Nat.reduceLT, Int.reduceToNat, Int.reduceLT, Int.reduceLE, reduceCtorEq]
        · simp only [q2, go_sem, Int.reduceTMod, Int.reduceTDiv, Int.reduceDiv, Int.reduceMod, Int.reduceAdd, Int.reduceSub, Int.reduceMul, Int.reduceNeg, Int.reducePow, Int.reduceEq, ↓reduceIte, Nat.reduceEqDiff, Nat.reduceAdd, Nat.reduceMul, Nat.reduceLeDiff, Nat.reduceSub, Nat.reduceLT, Int.reduceToNat, Int.reduceLT, Int.reduceLE, reduceCtorEq]
        · simp only; omega
        · intro id hid
          simp only [na_0 (show id < N by omega), qm id hid, go_sem, Int.reduceTMod, Int.reduceTDiv, Int.reduceDiv, Int.reduceMod, Int.reduceAdd, Int.reduceSub, Int.reduceMul, Int.reduceNeg, Int.reducePow, Int.reduceEq, ↓reduceIte, Nat.reduceEqDiff, Nat.reduceAdd, Nat.reduceMul, Nat.reduceLeDiff, Nat.reduceSub, Nat.reduceLT, Int.reduceToNat, Int.reduceLT, Int.reduceLE, reduceCtorEq]
        · rw [hdt, List.append_nil]
          exact hP1.keep (by simp only; omega) (fun id hid => by simp only [na_0 hid, go_sem, Int.reduceTMod, Int.reduceTDiv, Int.reduceDiv, Int.reduceMod, Int.reduceAdd, Int.reduceSub, Int.reduceMul, Int.reduceNeg, Int.reducePow, Int.reduceEq, ↓reduceIte, Nat.reduceEqDiff, Nat.reduceAdd, Nat.reduceMul, Nat.reduceLeDiff, Nat.reduceSub, Nat.reduceLT, Int.reduceToNat, Int.reduceLT, Int.reduceLE, reduceCtorEq])
  · obtain ⟨e, M, N⟩ := s
    obtain ⟨q55, q54, q53, q0, q6, q2, qn, qm, co1, hP1⟩ := hs
    simp only at q55 q54 q53 q0 q6 q2 qn qm hP1
    have c2 : ((l.length : Int) < (l.length : Int)) = False := eq_false (by omega)
    try simp only [r39_0, r39_1, r39_2, r39_3, r39_4, r39_5, r39_6, r39_7, r39_8, r39_9, r39_10, r39_11, r39_12, r39_13, c39, F39, l39_0, l39_1, q55, q54, c2, go_sem, Int.reduceTMod, Int.reduceTDiv, Int.reduceDiv, Int.reduceMod, Int.reduceAdd, Int.reduceSub, Int.reduceMul, Int.reduceNeg, Int.reducePow, Int.reduceEq, ↓reduceIte, Nat.reduceEqDiff, Nat.reduceAdd, Nat.reduceMul, Nat.reduceLeDiff, Nat.reduceSub, Nat.reduceLT, Int.reduceToNat, Int.reduceLT, Int.reduceLE, reduceCtorEq]
    repeat' ((first | refine FK_split (fun h_ => ?_) (fun h_ => ?_) | refine GK_split (fun h_ => ?_) (fun h_ => ?_) | refine ite_both (fun h_ => ?_) (fun h_ => ?_)) <;> (try simp only [decide_eq_true_eq, decide_eq_false_iff_not, Bool.not_true, Bool.not_false, Bool.not_eq_true', Bool.not_eq_false', Bool.not_eq_eq_eq_not, Decidable.not_not] at h_) <;> (try simp only [r39_0, r39_1, r39_2, r39_3, r39_4, r39_5, r39_6, r39_7, r39_8, r39_9, r39_10, r39_11, r39_12, r39_13, c39, F39, l39_0, l39_1, q55, q54, c2, h_, go_sem, Int.reduceTMod, Int.reduceTDiv, Int.reduceDiv, Int.reduceMod, Int.reduceAdd, Int.reduceSub, Int.reduceMul, Int.reduceNeg, Int.reducePow, Int.reduceEq, ↓reduceIte, Nat.reduceEqDiff, Nat.reduceAdd, Nat.reduceMul, Nat.reduceLeDiff, Nat.reduceSub, Nat.reduceLT, Int.reduceToNat, Int.reduceLT, Int.reduceLE, reduceCtorEq]))
    exact hK _ co1 qn qm hP1
  · refine ⟨e55, e54, e53, e0, e6, e2, Nat.le_refl _, fun _ _ => rfl, co, ?_⟩
    rw [discsTo, List.append_nil]
    exact hP
set_option maxHeartbeats 1000000 in
theorem w_along {pid u v : Nat} {h : Int} {its : List (Bool × List Pt)} {co : Cell} {m : Mem} {n : Nat} {r : Reg} {l : List Pt} {c o : Bool} (hP : Pen pid u v h its co m n) (hr : RPt m n r l) (hb : Bel pid r) (h0 : 0 < pid) (hc : m 0 = some ⟨cosT, o⟩)
    (h1 : 1 ≤ h) (h2 : h ≤ 32768) (hin : l.all inP = true) (hadj : ∀ i p q, l[i]? = some p → l[i + 1]? = some q → p ≠ q) (hends : c = true → l[l.length - 1]? ≠ l[0]?) (hl2 : 2 ≤ l.length) (hl : l.length < 1000000) (hits : its.length < 1000000) :
    Fn TA 39 [.one (.ptr pid 0), r, RB c] m n (fun _ m' n' => n ≤ n' ∧ (∀ id, id < pid → m' id = m id) ∧ ∃ co', Pen pid u v h (its ++ alongI h l c) co' m' n') := by
  refine Fn_ofK (fn := F39) rfl (by simp [F39]) ?_
  have hlen := hr.len
  have w0 : IntKind.i64.wrap ((l.length : Int) - 1) = ((l.length - 1 : Nat) : Int) := (wr_eq (by omega) (by omega)).trans (by omega)
  try simp only [r39_0, r39_1, r39_2, r39_3, r39_4, r39_5, r39_6, r39_7, r39_8, r39_9, r39_10, r39_11, r39_12, r39_13, c39, F39, hlen, w0, go_sem, Int.reduceTMod, Int.reduceTDiv, Int.reduceDiv, Int.reduceMod, Int.reduceAdd, Int.reduceSub, Int.reduceMul, Int.reduceNeg, Int.reducePow, Int.reduceEq, ↓reduceIte, Nat.reduceEqDiff, Nat.reduceAdd, Nat.reduceMul, Nat.reduceLeDiff, Nat.reduceSub, Nat.reduceLT, Int.reduceToNat, Int.reduceLT, Int.reduceLE, reduceCtorEq]
  repeat' ((first | refine FK_split (fun h_ => ?_) (fun h_ => ?_) | refine GK_split (fun h_ => ?_) (fun h_ => ?_) | refine ite_both (fun h_ => ?_) (fun h_ => ?_)) <;> (try simp only [decide_eq_true_eq, decide_eq_false_iff_not, Bool.not_true, Bool.not_false, Bool.not_eq_true', Bool.not_eq_false', Bool.not_eq_eq_eq_not, Decidable.not_not] at h_) <;> (try simp only [r39_0, r39_1, r39_2, r39_3, r39_4, r39_5, r39_6, r39_7, r39_8, r39_9, r39_10, r39_11, r39_12, r39_13, c39, F39, hlen, w0, h_, go_sem, Int.reduceTMod, Int.reduceTDiv, Int.reduceDiv, Int.reduceMod, Int.reduceAdd, Int.reduceSub, Int.reduceMul, Int.reduceNeg, Int.reducePow, Int.reduceEq, ↓reduceIte, Nat.reduceEqDiff, Nat.reduceAdd, Nat.reduceMul, Nat.reduceLeDiff, Nat.reduceSub, Nat.reduceLT, Int.reduceToNat, Int.reduceLT, Int.reduceLE, reduceCtorEq]))
  refine XK_iter (inv := fun i s => s.e 14 = RI i ∧ s.e 13 = RI (l.length - 1 : Nat) ∧ s.e 6 = RI (l.length - 1 : Nat) ∧ s.e 0 = .one (.ptr pid 0) ∧ s.e 1 = r ∧ s.e 2 = RB c ∧ n ≤ s.n ∧ (∀ id, id < pid → s.m id = m id) ∧ ∃ co', Pen pid u v h (its ++ barsTo h l i) co' s.m s.n) (l.length - 1)
    (fun L _ => ⟨fun i hi s hs next => ?_, fun s hs => ?_⟩) 0 (by omega) _ ?_
  · obtain ⟨e, M, N⟩ := s
    obtain ⟨q14, q13, q6, q0, q1, q2, qn, qm, co1, hP1⟩ := hs
    simp only at q14 q13 q6 q0 q1 q2 qn qm hP1
    have hr1 := hr.bel hb qn qm
    have hp : l[i]? = some l[i] := List.getElem?_eq_getElem (by omega)
    have hq : l[i + 1]? = some (l[i + 1]'(by omega)) := List.getElem?_eq_getElem (by omega)
    obtain ⟨id, off, cap, hra, hid, hrd⟩ := hr1.at cs2 hp
    obtain ⟨id', off', cap', hra', hid', hrd'⟩ := hr1.at cs2 hq
    rw [hra] at hra'
    simp only [Reg.one.injEq, Cell.sl.injEq, true_and] at hra'
    obtain ⟨rfl, rfl, rfl, _⟩ := hra'
    have ip := all_at hin hp
    have iq := all_at hin hq
    have hne := hadj i _ _ hp hq
    have c2 : ((i : Int) < ((l.length - 1 : Nat) : Int)) = True := eq_true (by omega)
    have c2' : ((i : Int) < (l.length : Int)) = True := eq_true (by omega)
    have c3 : (0 ≤ (i : Int)) = True := eq_true (by omega)
    have c4 : (0 ≤ ((i + 1 : Nat) : Int)) = True := eq_true (by omega)
    have c6 : (((i + 1 : Nat) : Int) < (l.length : Int)) = True := eq_true (by omega)
    have c7 : IntKind.i64.wrap ((i : Int) + 1) = ((i + 1 : Nat) : Int) := wr_nat (by omega)
    have hbt : barsTo h l (i + 1) = barsTo h l i ++ [barI h l[i] (l[i + 1]'(by omega))] := by
      rw [barsTo, barAt, hp, hq]
    have hbl := barsTo_len h l i
    generalize l[i] = p at *
    generalize (l[i + 1]'(by omega)) = q at *
    rw [hra] at q1
    have hpp := hP1.hp
    try simp only [r39_0, r39_1, r39_2, r39_3, r39_4, r39_5, r39_6, r39_7, r39_8, r39_9, r39_10, r39_11, r39_12, r39_13, c39, F39, l39_0, l39_1, q14, q13, q6, q0, q1, q2, c2, c2', c3, c4, c6, c7, hrd, hrd', hpp, rd_of hpp, Int.toNat_natCast, go_sem, Int.reduceTMod, Int.reduceTDiv, Int.reduceDiv, Int.reduceMod, Int.reduceAdd, Int.reduceSub, Int.reduceMul, Int.reduceNeg, Int.reducePow, Int.reduceEq, ↓reduceIte, Nat.reduceEqDiff, Nat.reduceAdd, Nat.reduceMul, Nat.reduceLeDiff, Nat.reduceSub, Nat.reduceLT, Int.reduceToNat, Int.reduceLT, Int.reduceLE, reduceCtorEq]
    repeat' ((first | refine FK_split (fun h_ => ?_) (fun h_ => ?_) | refine GK_split (fun h_ => ?_) (fun h_ => ?_) | refine ite_both (fun h_ => ?_) (fun h_ => ?_)) <;> (try simp only [decide_eq_true_eq, decide_eq_false_iff_not, Bool.not_true, Bool.not_false, Bool.not_eq_true', Bool.not_eq_false', Bool.not_eq_eq_eq_not, Decidable.not_not] at h_) <;> (try simp only [r39_0, r39_1, r39_2, r39_3, r39_4, r39_5, r39_6, r39_7, r39_8, r39_9, r39_10, r39_11, r39_12, r39_13, c39, F39, l39_0, l39_1, q14, q13, q6, q0, q1, q2, c2, c2', c3, c4, c6, c7, hrd, hrd', hpp, rd_of hpp, Int.toNat_natCast, h_, go_sem, Int.reduceTMod, Int.reduceTDiv, Int.reduceDiv, Int.reduceMod, Int.reduceAdd, Int.reduceSub, Int.reduceMul, Int.reduceNeg, Int.reducePow, Int.reduceEq, ↓reduceIte, Nat.reduceEqDiff, Nat.reduceAdd, Nat.reduceMul, Nat.reduceLeDiff, Nat.reduceSub, Nat.reduceLT, Int.reduceToNat, Int.reduceLT, Int.reduceLE, reduceCtorEq]))
    refine RK_callk ?_
    refine (w_Bar ip iq hne h1 h2 _ _).mono ?_
    rintro r1 m1 n1 ⟨x, kk, rfl, hk, hx⟩
    obtain ⟨hPa, hxa⟩ := hP1.after hx
    try simp only [r39_0, r39_1, r39_2, r39_3, r39_4, r39_5, r39_6, r39_7, r39_8, r39_9, r39_10, r39_11, r39_12, r39_13, c39, F39, go_sem, Int.reduceTMod, Int.reduceTDiv, Int.reduceDiv, Int.reduceMod, Int.reduceAdd, Int.reduceSub, Int.reduceMul, Int.reduceNeg, Int.reducePow, Int.reduceEq, ↓reduceIte, Nat.reduceEqDiff, Nat.reduceAdd, Nat.reduceMul, Nat.reduceLeDiff, Nat.reduceSub, Nat.reduceLT, Int.reduceToNat, Int.reduceLT, Int.reduceLE, reduceCtorEq]
    repeat' ((first | refine FK_split (fun h_ => ?_) (fun h_ => ?_) | refine GK_split (fun h_ => ?_) (fun h_ => ?_) | refine ite_both (fun h_ => ?_) (fun h_ => ?_)) <;> (try simp only [decide_eq_true_eq, decide_eq_false_iff_not, Bool.not_true, Bool.not_false, Bool.not_eq_true', Bool.not_eq_false', Bool.not_eq_eq_eq_not, Decidable.not_not] at h_) <;> (try simp only [r39_0, r39_1, r39_2, r39_3, r39_4, r39_5, r39_6, r39_7, r39_8, r39_9, r39_10, r39_11, r39_12, r39_13, c39, F39, h_, go_sem, Int.reduceTMod, Int.reduceTDiv, Int.reduceDiv, Int.reduceMod, Int.reduceAdd, Int.reduceSub, Int.reduceMul, Int.reduceNeg, Int.reducePow, Int.reduceEq, ↓reduceIte, Nat.reduceEqDiff, Nat.reduceAdd, Nat.reduceMul, Nat.reduceLeDiff, Nat.reduceSub, Nat.reduceLT, Int.reduceToNat, Int.reduceLT, Int.reduceLE, reduceCtorEq]))
    refine RK_callw ?_
    refine (w_leave hk hPa (by rw [List.length_append]; omega) hxa).mono ?_
    rintro r2 m2 n2 ⟨hn2, hF, co2, hP2, _, _⟩
    have hF2 := hF.low hPa
    try simp only [r39_0, r39_1, r39_2, r39_3, r39_4, r39_5, r39_6, r39_7, r39_8, r39_9, r39_10, r39_11, r39_12, r39_13, c39, F39, q14, q13, q6, q0, q1, q2, c7, go_sem, Int.reduceTMod, Int.reduceTDiv, Int.reduceDiv, Int.reduceMod, Int.reduceAdd, Int.reduceSub, Int.reduceMul, Int.reduceNeg, Int.reducePow, Int.reduceEq, ↓reduceIte, Nat.reduceEqDiff, Nat.reduceAdd, Nat.reduceMul, Nat.reduceLeDiff, Nat.reduceSub, Nat.reduceLT, Int.reduceToNat, Int.reduceLT, Int.reduceLE, reduceCtorEq]
    repeat' ((first | refine FK_split (fun h_ => ?_) (fun h_ => ?_) | refine GK_split (fun h_ => ?_) (fun h_ => ?_) | refine ite_both (fun h_ => ?_) (fun h_ => ?_)) <;> (try simp only [decide_eq_true_eq, decide_eq_false_iff_not, Bool.not_true, Bool.not_false, Bool.not_eq_true', Bool.not_eq_false', Bool.not_eq_eq_eq_not, Decidable.not_not] at h_) <;> (try simp only [r39_0, r39_1, r39_2, r39_3, r39_4, r39_5, r39_6, r39_7, r39_8, r39_9, r39_10, r39_11, r39_12, r39_13, c39, F39, q14, q13, q6, q0, q1, q2, c7, h_, go_sem, Int.reduceTMod, Int.reduceTDiv, Int.reduceDiv, Int.reduceMod, Int.reduceAdd, Int.reduceSub, Int.reduceMul, Int.reduceNeg, Int.reducePow, Int.reduceEq, ↓reduceIte, Nat.reduceEqDiff, Nat.reduceAdd, Nat.reduceMul, Nat.reduceLeDiff, Nat.reduceSub, Nat.reduceLT, Int.reduceToNat, Int.reduceLT, Int.reduceLE, reduceCtorEq]))
    refine next _ ⟨?_, ?_, ?_, ?_, ?_, ?_, ?_, ?_, co2, ?_⟩
    · simp only [go_sem, Int.reduceTMod, Int.reduceTDiv, Int.reduceDiv, Int.reduceMod, Int.reduceAdd, Int.reduceSub, Int.reduceMul, Int.reduceNeg, Int.reducePow, Int.reduceEq, ↓reduceIte, Nat.reduceEqDiff, Nat.reduceAdd, Nat.reduceMul, Nat.reduceLeDiff, Nat.reduceSub, Nat.reduceLT, Int.reduceToNat, Int.reduceLT, Int.reduceLE, reduceCtorEq]
    · simp only [q13, go_sem, Int.reduceTMod, Int.reduceTDiv, Int.reduceDiv, Int.reduceMod, Int.reduceAdd, Int.reduceSub, Int.reduceMul, Int.reduceNeg, Int.reducePow, Int.reduceEq, ↓reduceIte, Nat.reduceEqDiff, Nat.reduceAdd, Nat.reduceMul, Nat.reduceLeDiff, Nat.reduceSub, Nat.reduceLT, Int.reduceToNat, Int.reduceLT, Int.reduceLE, reduceCtorEq]
    · simp only [q6, go_sem, Int.reduceTMod, Int.reduceTDiv, Int.reduceDiv, Int.reduceMod, Int.reduceAdd, Int.reduceSub, Int.reduceMul, Int.reduceNeg, Int.reducePow, Int.reduceEq, ↓reduceIte, Nat.reduceEqDiff, Nat.reduceAdd, Nat.reduceMul, Nat.reduceLeDiff, Nat.reduceSub, Nat.reduceLT, Int.reduceToNat, Int.reduceLT, Int.reduceLE, reduceCtorEq]
    · simp only [q0, go_sem, Int.reduceTMod, Int.reduceTDiv, Int.reduceDiv, Int.reduceMod, Int.reduceAdd, Int.reduceSub, Int.reduceMul, Int.reduceNeg, Int.reducePow, Int.reduceEq, ↓reduceIte, Nat.reduceEqDiff, Nat.reduceAdd, Nat.reduceMul, Nat.reduceLeDiff, Nat.reduceSub, Nat.reduceLT, Int.reduceToNat, Int.reduceLT, Int.reduceLE, reduceCtorEq]
    · simp only [q1, hra, go_sem, Int.reduceTMod, Int.reduceTDiv, Int.reduceDiv, Int.reduceMod, Int.reduceAdd, Int.reduceSub, Int.reduceMul, Int.reduceNeg, Int.reducePow, Int.reduceEq, ↓reduceIte, Nat.reduceEqDiff, Nat.reduceAdd, Nat.reduceMul, Nat.reduceLeDiff, Nat.reduceSub, Nat.reduceLT, Int.reduceToNat, Int.reduceLT, Int.reduceLE, reduceCtorEq]
    · simp only [q2, go_sem, Int.reduceTMod, Int.reduceTDiv, Int.reduceDiv, Int.reduceMod, Int.reduceAdd, Int.reduceSub, Int.reduceMul, Int.reduceNeg, Int.reducePow, Int.reduceEq, ↓reduceIte, Nat.reduceEqDiff, Nat.reduceAdd, Nat.reduceMul, Nat.reduceLeDiff, Nat.reduceSub, Nat.reduceLT, Int.reduceToNat, Int.reduceLT, Int.reduceLE, reduceCtorEq]
    · simp only [go_sem, Int.reduceTMod, Int.reduceTDiv, Int.reduceDiv, Int.reduceMod, Int.reduceAdd, Int.reduceSub, Int.reduceMul, Int.reduceNeg, Int.reducePow, Int.reduceEq, ↓reduceIte, Nat.reduceEqDiff, Nat.reduceAdd, Nat.reduceMul, Nat.reduceLeDiff, Nat.reduceSub, Nat.reduceLT, Int.reduceToNat, Int.reduceLT, Int.reduceLE, reduceCtorEq]
      omega
    · intro id hid
      simp only
      rw [hF2 id hid, unfrz_at, if_pos (by have := hP1.hl; omega)]
      exact qm id hid
    · rw [hbt, ← List.append_assoc]
      exact hP2
  · obtain ⟨e, M, N⟩ := s
    obtain ⟨q14, q13, q6, q0, q1, q2, qn, qm, co1, hP1⟩ := hs
    simp only at q14 q13 q6 q0 q1 q2 qn qm hP1
    have hr1 := hr.bel hb qn qm
    have hlen1 := hr1.len
    have hbl := barsTo_len h l (l.length - 1)
    have c2 : (((l.length - 1 : Nat) : Int) < ((l.length - 1 : Nat) : Int)) = False := eq_false (by omega)
    cases hcc : c
    · subst hcc
      have hal : alongI h l false = barsTo h l (l.length - 1) ++ discsTo h l false l.length := by simp [alongI]
      try simp only [r39_0, r39_1, r39_2, r39_3, r39_4, r39_5, r39_6, r39_7, r39_8, r39_9, r39_10, r39_11, r39_12, r39_13, c39, F39, l39_0, l39_1, q14, q13, q6, q0, q1, q2, c2, hlen1, go_sem, Int.reduceTMod, Int.reduceTDiv, Int.reduceDiv, Int.reduceMod, Int.reduceAdd, Int.reduceSub, Int.reduceMul, Int.reduceNeg, Int.reducePow, Int.reduceEq, ↓reduceIte, Nat.reduceEqDiff, Nat.reduceAdd, Nat.reduceMul, Nat.reduceLeDiff, Nat.reduceSub, Nat.reduceLT, Int.reduceToNat, Int.reduceLT, Int.reduceLE, reduceCtorEq]
      repeat' ((first | refine FK_split (fun h_ => ?_) (fun h_ => ?_) | refine GK_split (fun h_ => ?_) (fun h_ => ?_) | refine ite_both (fun h_ => ?_) (fun h_ => ?_)) <;> (try simp only [decide_eq_true_eq, decide_eq_false_iff_not, Bool.not_true, Bool.not_false, Bool.not_eq_true', Bool.not_eq_false', Bool.not_eq_eq_eq_not, Decidable.not_not] at h_) <;> (try simp only [r39_0, r39_1, r39_2, r39_3, r39_4, r39_5, r39_6, r39_7, r39_8, r39_9, r39_10, r39_11, r39_12, r39_13, c39, F39, l39_0, l39_1, q14, q13, q6, q0, q1, q2, c2, hlen1, h_, go_sem, Int.reduceTMod, Int.reduceTDiv, Int.reduceDiv, Int.reduceMod, Int.reduceAdd, Int.reduceSub, Int.reduceMul, Int.reduceNeg, Int.reducePow, Int.reduceEq, ↓reduceIte, Nat.reduceEqDiff, Nat.reduceAdd, Nat.reduceMul, Nat.reduceLeDiff, Nat.reduceSub, Nat.reduceLT, Int.reduceToNat, Int.reduceLT, Int.reduceLE, reduceCtorEq]))
      refine discs_loop (c := false) (o := o) hP1 hr1 hb h0 (by rw [qm 0 h0]; exact hc) h1 h2 hin hl2 hl (by rw [List.length_append]; omega) ?_ ?_ ?_ ?_ ?_ ?_ (fun s co' k1 k2 k3 => ?_)
      · simp only [go_sem, Int.reduceTMod, Int.reduceTDiv, Int.reduceDiv, Int.reduceMod, Int.reduceAdd, Int.reduceSub, Int.reduceMul, Int.reduceNeg, Int.reducePow, Int.reduceEq, ↓reduceIte, Nat.reduceEqDiff, Nat.reduceAdd, Nat.reduceMul, Nat.reduceLeDiff, Nat.reduceSub, Nat.reduceLT, Int.reduceToNat, Int.reduceLT, Int.reduceLE, reduceCtorEq]
      · simp only [go_sem, Int.reduceTMod, Int.reduceTDiv, Int.reduceDiv, Int.reduceMod, Int.reduceAdd, Int.reduceSub, Int.reduceMul, Int.reduceNeg, Int.reducePow, Int.reduceEq, ↓reduceIte, Nat.reduceEqDiff, Nat.reduceAdd, Nat.reduceMul, Nat.reduceLeDiff, Nat.reduceSub, Nat.reduceLT, Int.reduceToNat, Int.reduceLT, Int.reduceLE, reduceCtorEq]
      · simp only [q1, go_sem, Int.reduceTMod, Int.reduceTDiv, Int.reduceDiv, Int.reduceMod, Int.reduceAdd, Int.reduceSub, Int.reduceMul, Int.reduceNeg, Int.reducePow, Int.reduceEq, ↓reduceIte, Nat.reduceEqDiff, Nat.reduceAdd, Nat.reduceMul, Nat.reduceLeDiff, Nat.reduceSub, Nat.reduceLT, Int.reduceToNat, Int.reduceLT, Int.reduceLE, reduceCtorEq]
      · simp only [q0, go_sem, Int.reduceTMod, Int.reduceTDiv, Int.reduceDiv, Int.reduceMod, Int.reduceAdd, Int.reduceSub, Int.reduceMul, Int.reduceNeg, Int.reducePow, Int.reduceEq, ↓reduceIte, Nat.reduceEqDiff, Nat.reduceAdd, Nat.reduceMul, Nat.reduceLeDiff, Nat.reduceSub, Nat.reduceLT, Int.reduceToNat, Int.reduceLT, Int.reduceLE, reduceCtorEq]
      · simp only [q6, go_sem, Int.reduceTMod, Int.reduceTDiv, Int.reduceDiv, Int.reduceMod, Int.reduceAdd, Int.reduceSub, Int.reduceMul, Int.reduceNeg, Int.reducePow, Int.reduceEq, ↓reduceIte, Nat.reduceEqDiff, Nat.reduceAdd, Nat.reduceMul, Nat.reduceLeDiff, Nat.reduceSub, Nat.reduceLT, Int.reduceToNat, Int.reduceLT, Int.reduceLE, reduceCtorEq]
      · simp only [q2, go_sem, Int.reduceTMod, Int.reduceTDiv, Int.reduceDiv, Int.reduceMod, Int.reduceAdd, Int.reduceSub, Int.reduceMul, Int.reduceNeg, Int.reducePow, Int.reduceEq, ↓reduceIte, Nat.reduceEqDiff, Nat.reduceAdd, Nat.reduceMul, Nat.reduceLeDiff, Nat.reduceSub, Nat.reduceLT, Int.reduceToNat, Int.reduceLT, Int.reduceLE, reduceCtorEq]
      · skip
        try simp only [go_sem, Int.reduceTMod, Int.reduceTDiv, Int.reduceDiv, Int.reduceMod, Int.reduceAdd, Int.reduceSub, Int.reduceMul, Int.reduceNeg, Int.reducePow, Int.reduceEq, ↓reduceIte, Nat.reduceEqDiff, Nat.reduceAdd, Nat.reduceMul, Nat.reduceLeDiff, Nat.reduceSub, Nat.reduceLT, Int.reduceToNat, Int.reduceLT, Int.reduceLE, reduceCtorEq]
        repeat' ((first | refine FK_split (fun h_ => ?_) (fun h_ => ?_) | refine GK_split (fun h_ => ?_) (fun h_ => ?_) | refine ite_both (fun h_ => ?_) (fun h_ => ?_)) <;> (try simp only [decide_eq_true_eq, decide_eq_false_iff_not, Bool.not_true, Bool.not_false, Bool.not_eq_true', Bool.not_eq_false', Bool.not_eq_eq_eq_not, Decidable.not_not] at h_) <;> (try simp only [h_, go_sem, Int.reduceTMod, Int.reduceTDiv, Int.reduceDiv, Int.reduceMod, Int.reduceAdd, Int.reduceSub, Int.reduceMul, Int.reduceNeg, Int.reducePow, Int.reduceEq, ↓reduceIte, Nat.reduceEqDiff, Nat.reduceAdd, Nat.reduceMul, Nat.reduceLeDiff, Nat.reduceSub, Nat.reduceLT, Int.reduceToNat, Int.reduceLT, Int.reduceLE, reduceCtorEq]))
        refine ⟨by omega, fun id hid => by rw [k2 id hid, qm id hid], co', ?_⟩
        rw [hal, ← List.append_assoc]
        exact k3
    · subst hcc
      have hp : l[l.length - 1]? = some (l[l.length - 1]'(by omega)) := List.getElem?_eq_getElem (by omega)
      have hq : l[0]? = some (l[0]'(by omega)) := List.getElem?_eq_getElem (by omega)
      obtain ⟨id, off, cap, hra, hid, hrd⟩ := hr1.at cs2 hp
      obtain ⟨id', off', cap', hra', hid', hrd'⟩ := hr1.at cs2 hq
      rw [hra] at hra'
      simp only [Reg.one.injEq, Cell.sl.injEq, true_and] at hra'
      obtain ⟨rfl, rfl, rfl, _⟩ := hra'
      rw [Nat.zero_mul, Nat.add_zero] at hrd'
      have ip := all_at hin hp
      have iq := all_at hin hq
      have hne := hends rfl
      rw [hp, hq] at hne
      have hne' : (l[l.length - 1]'(by omega)) ≠ (l[0]'(by omega)) := fun e => hne (by rw [e])
      have hal : alongI h l true = barsTo h l (l.length - 1) ++ [barI h (l[l.length - 1]'(by omega)) (l[0]'(by omega))] ++ discsTo h l true l.length := by
        simp only [alongI, if_true, barAt, hp, hq]
      have c3 : (((l.length - 1 : Nat) : Int) < (l.length : Int)) = True := eq_true (by omega)
      have c4 : (0 ≤ ((l.length - 1 : Nat) : Int)) = True := eq_true (by omega)
      have c5 : ((0 : Int) < (l.length : Int)) = True := eq_true (by omega)
      generalize (l[l.length - 1]'(by omega)) = p at *
      generalize (l[0]'(by omega)) = q at *
      have q1' := q1
      rw [hra] at q1'
      have hpp := hP1.hp
      try simp only [r39_0, r39_1, r39_2, r39_3, r39_4, r39_5, r39_6, r39_7, r39_8, r39_9, r39_10, r39_11, r39_12, r39_13, c39, F39, l39_0, l39_1, q14, q13, q6, q0, q1', q2, c2, c3, c4, c5, hrd, hrd', hpp, rd_of hpp, Int.toNat_natCast, Int.toNat_zero, Int.reduceToNat, Nat.zero_mul, Nat.add_zero, go_sem, Int.reduceTMod, Int.reduceTDiv, Int.reduceDiv, Int.reduceMod, Int.reduceAdd, Int.reduceSub, Int.reduceMul, Int.reduceNeg, Int.reducePow, Int.reduceEq, ↓reduceIte, Nat.reduceEqDiff, Nat.reduceAdd, Nat.reduceMul, Nat.reduceLeDiff, Nat.reduceSub, Nat.reduceLT, Int.reduceToNat, Int.reduceLT, Int.reduceLE, reduceCtorEq]
      repeat' ((first | refine FK_split (fun h_ => ?_) (fun h_ => ?_) | refine GK_split (fun h_ => ?_) (fun h_ => ?_) | refine ite_both (fun h_ => ?_) (fun h_ => ?_)) <;> (try simp only [decide_eq_true_eq, decide_eq_false_iff_not, Bool.not_true, Bool.not_false, Bool.not_eq_true', Bool.not_eq_false', Bool.not_eq_eq_eq_not, Decidable.not_not] at h_) <;> (try simp only [r39_0, r39_1, r39_2, r39_3, r39_4, r39_5, r39_6, r39_7, r39_8, r39_9, r39_10, r39_11, r39_12, r39_13, c39, F39, l39_0, l39_1, q14, q13, q6, q0, q1', q2, c2, c3, c4, c5, hrd, hrd', hpp, rd_of hpp, Int.toNat_natCast, Int.toNat_zero, Int.reduceToNat, Nat.zero_mul, Nat.add_zero, h_, go_sem, Int.reduceTMod, Int.reduceTDiv, Int.reduceDiv, Int.reduceMod, Int.reduceAdd, Int.reduceSub, Int.reduceMul, Int.reduceNeg, Int.reducePow, Int.reduceEq, ↓reduceIte, Nat.reduceEqDiff, Nat.reduceAdd, Nat.reduceMul, Nat.reduceLeDiff, Nat.reduceSub, Nat.reduceLT, Int.reduceToNat, Int.reduceLT, Int.reduceLE, reduceCtorEq]))
      refine RK_callk ?_
      refine (w_Bar ip iq hne' h1 h2 _ _).mono ?_
      rintro r1 m1 n1 ⟨x, kk, rfl, hk, hx⟩
      obtain ⟨hPa, hxa⟩ := hP1.after hx
      try simp only [r39_0, r39_1, r39_2, r39_3, r39_4, r39_5, r39_6, r39_7, r39_8, r39_9, r39_10, r39_11, r39_12, r39_13, c39, F39, go_sem, Int.reduceTMod, Int.reduceTDiv, Int.reduceDiv, Int.reduceMod, Int.reduceAdd, Int.reduceSub, Int.reduceMul, Int.reduceNeg, Int.reducePow, Int.reduceEq, ↓reduceIte, Nat.reduceEqDiff, Nat.reduceAdd, Nat.reduceMul, Nat.reduceLeDiff, Nat.reduceSub, Nat.reduceLT, Int.reduceToNat, Int.reduceLT, Int.reduceLE, reduceCtorEq]
      repeat' ((first | refine FK_split (fun h_ => ?_) (fun h_ => ?_) | refine GK_split (fun h_ => ?_) (fun h_ => ?_) | refine ite_both (fun h_ => ?_) (fun h_ => ?_)) <;> (try simp only [decide_eq_true_eq, decide_eq_false_iff_not, Bool.not_true, Bool.not_false, Bool.not_eq_true', Bool.not_eq_false', Bool.not_eq_eq_eq_not, Decidable.not_not] at h_) <;> (try simp only [r39_0, r39_1, r39_2, r39_3, r39_4, r39_5, r39_6, r39_7, r39_8, r39_9, r39_10, r39_11, r39_12, r39_13, c39, F39, h_, go_sem, Int.reduceTMod, Int.reduceTDiv, Int.reduceDiv, Int.reduceMod, Int.reduceAdd, Int.reduceSub, Int.reduceMul, Int.reduceNeg, Int.reducePow, Int.reduceEq, ↓reduceIte, Nat.reduceEqDiff, Nat.reduceAdd, Nat.reduceMul, Nat.reduceLeDiff, Nat.reduceSub, Nat.reduceLT, Int.reduceToNat, Int.reduceLT, Int.reduceLE, reduceCtorEq]))
      refine RK_callw ?_
      refine (w_leave hk hPa (by rw [List.length_append]; omega) hxa).mono ?_
      rintro r2 m2 n2 ⟨hn2, hF, co2, hP2, _, _⟩
      have hF2 := hF.low hPa
      have hfr : ∀ id, id < pid → m2 id = m id := fun id hid => by
        rw [hF2 id hid, unfrz_at, if_pos (by have := hP1.hl; omega)]
        exact qm id hid
      try simp only [r39_0, r39_1, r39_2, r39_3, r39_4, r39_5, r39_6, r39_7, r39_8, r39_9, r39_10, r39_11, r39_12, r39_13, c39, F39, q14, q13, q6, q0, q1', q2, lenO, go_sem, Int.reduceTMod, Int.reduceTDiv, Int.reduceDiv, Int.reduceMod, Int.reduceAdd, Int.reduceSub, Int.reduceMul, Int.reduceNeg, Int.reducePow, Int.reduceEq, ↓reduceIte, Nat.reduceEqDiff, Nat.reduceAdd, Nat.reduceMul, Nat.reduceLeDiff, Nat.reduceSub, Nat.reduceLT, Int.reduceToNat, Int.reduceLT, Int.reduceLE, reduceCtorEq]
      repeat' ((first | refine FK_split (fun h_ => ?_) (fun h_ => ?_) | refine GK_split (fun h_ => ?_) (fun h_ => ?_) | refine ite_both (fun h_ => ?_) (fun h_ => ?_)) <;> (try simp only [decide_eq_true_eq, decide_eq_false_iff_not, Bool.not_true, Bool.not_false, Bool.not_eq_true', Bool.not_eq_false', Bool.not_eq_eq_eq_not, Decidable.not_not] at h_) <;> (try simp only [r39_0, r39_1, r39_2, r39_3, r39_4, r39_5, r39_6, r39_7, r39_8, r39_9, r39_10, r39_11, r39_12, r39_13, c39, F39, q14, q13, q6, q0, q1', q2, lenO, h_, go_sem, Int.reduceTMod, Int.reduceTDiv, Int.reduceDiv, Int.reduceMod, Int.reduceAdd, Int.reduceSub, Int.reduceMul, Int.reduceNeg, Int.reducePow, Int.reduceEq, ↓reduceIte, Nat.reduceEqDiff, Nat.reduceAdd, Nat.reduceMul, Nat.reduceLeDiff, Nat.reduceSub, Nat.reduceLT, Int.reduceToNat, Int.reduceLT, Int.reduceLE, reduceCtorEq]))
      refine discs_loop (c := true) (o := o) hP2 (hr.bel hb (by omega) hfr) hb h0 (by rw [hfr 0 h0]; exact hc) h1 h2 hin hl2 hl (by simp only [List.length_append, List.length_cons, List.length_nil]; omega) ?_ ?_ ?_ ?_ ?_ ?_ (fun s co' k1 k2 k3 => ?_)
      · simp only [go_sem, Int.reduceTMod, Int.reduceTDiv, Int.reduceDiv, Int.reduceMod, Int.reduceAdd, Int.reduceSub, Int.reduceMul, Int.reduceNeg, Int.reducePow, Int.reduceEq, ↓reduceIte, Nat.reduceEqDiff, Nat.reduceAdd, Nat.reduceMul, Nat.reduceLeDiff, Nat.reduceSub, Nat.reduceLT, Int.reduceToNat, Int.reduceLT, Int.reduceLE, reduceCtorEq]
      · simp only [go_sem, Int.reduceTMod, Int.reduceTDiv, Int.reduceDiv, Int.reduceMod, Int.reduceAdd, Int.reduceSub, Int.reduceMul, Int.reduceNeg, Int.reducePow, Int.reduceEq, ↓reduceIte, Nat.reduceEqDiff, Nat.reduceAdd, Nat.reduceMul, Nat.reduceLeDiff, Nat.reduceSub, Nat.reduceLT, Int.reduceToNat, Int.reduceLT, Int.reduceLE, reduceCtorEq]
      · simp only [q1', hra, go_sem, Int.reduceTMod, Int.reduceTDiv, Int.reduceDiv, Int.reduceMod, Int.reduceAdd, Int.reduceSub, Int.reduceMul, Int.reduceNeg, Int.reducePow, Int.reduceEq, ↓reduceIte, Nat.reduceEqDiff, Nat.reduceAdd, Nat.reduceMul, Nat.reduceLeDiff, Nat.reduceSub, Nat.reduceLT, Int.reduceToNat, Int.reduceLT, Int.reduceLE, reduceCtorEq]
      · simp only [q0, go_sem, Int.reduceTMod, Int.reduceTDiv, Int.reduceDiv, Int.reduceMod, Int.reduceAdd, Int.reduceSub, Int.reduceMul, Int.reduceNeg, Int.reducePow, Int.reduceEq, ↓reduceIte, Nat.reduceEqDiff, Nat.reduceAdd, Nat.reduceMul, Nat.reduceLeDiff, Nat.reduceSub, Nat.reduceLT, Int.reduceToNat, Int.reduceLT, Int.reduceLE, reduceCtorEq]
      · simp only [q6, go_sem, Int.reduceTMod, Int.reduceTDiv, Int.reduceDiv, Int.reduceMod, Int.reduceAdd, Int.reduceSub, Int.reduceMul, Int.reduceNeg, Int.reducePow, Int.reduceEq, ↓reduceIte, Nat.reduceEqDiff, Nat.reduceAdd, Nat.reduceMul, Nat.reduceLeDiff, Nat.reduceSub, Nat.reduceLT, Int.reduceToNat, Int.reduceLT, Int.reduceLE, reduceCtorEq]
      · simp only [q2, go_sem, Int.reduceTMod, Int.reduceTDiv, Int.reduceDiv, Int.reduceMod, Int.reduceAdd, Int.reduceSub, Int.reduceMul, Int.reduceNeg, Int.reducePow, Int.reduceEq, ↓reduceIte, Nat.reduceEqDiff, Nat.reduceAdd, Nat.reduceMul, Nat.reduceLeDiff, Nat.reduceSub, Nat.reduceLT, Int.reduceToNat, Int.reduceLT, Int.reduceLE, reduceCtorEq]
      · skip
        try simp only [go_sem, Int.reduceTMod, Int.reduceTDiv, Int.reduceDiv, Int.reduceMod, Int.reduceAdd, Int.reduceSub, Int.reduceMul, Int.reduceNeg, Int.reducePow, Int.reduceEq, ↓reduceIte, Nat.reduceEqDiff, Nat.reduceAdd, Nat.reduceMul, Nat.reduceLeDiff, Nat.reduceSub, Nat.reduceLT, Int.reduceToNat, Int.reduceLT, Int.reduceLE, reduceCtorEq]
        repeat' ((first | refine FK_split (fun h_ => ?_) (fun h_ => ?_) | refine GK_split (fun h_ => ?_) (fun h_ => ?_) | refine ite_both (fun h_ => ?_) (fun h_ => ?_)) <;> (try simp only [decide_eq_true_eq, decide_eq_false_iff_not, Bool.not_true, Bool.not_false, Bool.not_eq_true', Bool.not_eq_false', Bool.not_eq_eq_eq_not, Decidable.not_not] at h_) <;> (try simp only [h_, go_sem, Int.reduceTMod, Int.reduceTDiv, Int.reduceDiv, Int.reduceMod, Int.reduceAdd, Int.reduceSub, Int.reduceMul, Int.reduceNeg, Int.reducePow, Int.reduceEq, ↓reduceIte, Nat.reduceEqDiff, Nat.reduceAdd, Nat.reduceMul, Nat.reduceLeDiff, Nat.reduceSub, Nat.reduceLT, Int.reduceToNat, Int.reduceLT, Int.reduceLE, reduceCtorEq]))
        refine ⟨by omega, fun id hid => by rw [k2 id hid, hfr id hid], co', ?_⟩
        rw [hal, ← List.append_assoc, ← List.append_assoc]
        exact k3
  · simp only [go_sem, Int.reduceTMod, Int.reduceTDiv, Int.reduceDiv, Int.reduceMod, Int.reduceAdd, Int.reduceSub, Int.reduceMul, Int.reduceNeg, Int.reducePow, Int.reduceEq, ↓reduceIte, Nat.reduceEqDiff, Nat.reduceAdd, Nat.reduceMul, Nat.reduceLeDiff, Nat.reduceSub, Nat.reduceLT, Int.reduceToNat, Int.reduceLT, Int.reduceLE, reduceCtorEq]
    refine ⟨by omega, fun _ _ => trivial, co, ?_⟩
    rw [barsTo, List.append_nil]
    exact hP

/- A pen's square caps. Conditions: those that each theorem names. -/
open Go Go.Proofs
set_option linter.unusedSimpArgs false
set_option linter.unusedVariables false

noncomputable def firstI (h : Int) (p q : Pt) : Bool × List Pt := ((firstQ p q h).all inP, firstQ p q h)
noncomputable def lastI (h : Int) (p q : Pt) : Bool × List Pt := ((lastQ p q h).all inP, lastQ p q h)
theorem w_roomP {c : Cell} {l : List Pt} {m : Mem} {n : Nat} (hr : RPt m n (.one c) l) (hl : l.length < 4294967296) :
    Fn TA 29 [.one c] m n (fun r' m' n' => m' = m ∧ n' = n ∧ ∃ x kk, r' = .tup [.one x, RI kk] ∧ kk = (if l.all inP = true then 0 else 10) ∧ (l.all inP = true → x = c)) := by
  refine (w_room (.one c) l m n hr hl).mono ?_
  intro r' m' n' hq
  obtain ⟨q1, q2, q3⟩ := hq
  refine ⟨q2, q3, ?_⟩
  cases ha : l.all inP
  · rw [ha, if_neg (by simp)] at q1
    exact ⟨_, _, q1, rfl, fun h => by cases h⟩
  · rw [ha, if_pos rfl] at q1
    exact ⟨_, _, q1, rfl, fun _ => rfl⟩
def wide16 (p : Pt) : Prop := (-2147581952 ≤ p.x ∧ p.x ≤ 2147581952) ∧ -2147581952 ≤ p.y ∧ p.y ≤ 2147581952
theorem in_wide {p : Pt} (h : inP p = true) : wide16 p ∧ ∀ q, near16 q → wide16 (lsP p q) ∧ wide16 (plP p q) := by
  have := inP_iff.1 (show inP ⟨p.x, p.y⟩ = true from h)
  refine ⟨by unfold wide16; omega, fun q hq => ?_⟩
  unfold near16 at hq
  unfold wide16 lsP plP
  constructor <;> simp only <;> omega
set_option maxHeartbeats 1000000 in
theorem w_caps {pid u v : Nat} {h : Int} {its : List (Bool × List Pt)} {co : Cell} {m : Mem} {n : Nat} {a b c d : Pt} (hP : Pen pid u v h its co m n) (h1 : 1 ≤ h) (h2 : h ≤ 32768)
    (ha : inP a = true) (hb : inP b = true) (hc : inP c = true) (hd : inP d = true) (hab : a ≠ b) (hcd : c ≠ d) (l1 : longQ a b = false) (l2 : longQ c d = false) (hits : its.length < 100000000) (hall : its.all (·.1) = true) :
    Fn TA 40 [.one (.ptr pid 0), a.r, b.r, c.r, d.r] m n (fun _ m' n' => n ≤ n' ∧ (∀ id, id < pid → m' id = m id) ∧ ∃ co', Pen pid (n + 4) (n + 5) h (its ++ [firstI h a b] ++ [lastI h c d]) co' m' n') := by
  refine Fn_ofK (fn := F40) rfl (by simp [F40]) ?_
  have vs1 := v_steps (show inP ⟨a.x, a.y⟩ = true from ha) (show inP ⟨b.x, b.y⟩ = true from hb) l1 (pt_sub hab) h1 h2
  have vs2 := v_steps (show inP ⟨c.x, c.y⟩ = true from hc) (show inP ⟨d.x, d.y⟩ = true from hd) l2 (pt_sub hcd) h1 h2
  obtain ⟨b1, b2⟩ := sdq_bd hab h1 h2 l1
  obtain ⟨b3, b4⟩ := sdq_bd hcd h1 h2 l2
  rw [show sdP (b.x - a.x) (b.y - a.y) h = sdQ a b h from rfl, show ahP (b.x - a.x) (b.y - a.y) h = ahQ a b h from rfl] at vs1
  rw [show sdP (d.x - c.x) (d.y - c.y) h = sdQ c d h from rfl, show ahP (d.x - c.x) (d.y - c.y) h = ahQ c d h from rfl] at vs2
  obtain ⟨wa, wa'⟩ := in_wide ha
  obtain ⟨wd, wd'⟩ := in_wide hd
  have x1 := fun m k => (v_lessQ a wa _ b1 m k).1
  have x2 := fun m k => (v_lessQ a wa _ b1 m k).2
  have x3 := fun m k => (v_lessQ (lsP a (sdQ a b h)) (wa' _ b1).1 _ b2 m k).1
  have x4 := fun m k => (v_lessQ (plP a (sdQ a b h)) (wa' _ b1).2 _ b2 m k).1
  have y1 := fun m k => (v_lessQ d wd _ b3 m k).1
  have y2 := fun m k => (v_lessQ d wd _ b3 m k).2
  have y3 := fun m k => (v_lessQ (lsP d (sdQ c d h)) (wd' _ b3).1 _ b4 m k).2
  have y4 := fun m k => (v_lessQ (plP d (sdQ c d h)) (wd' _ b3).2 _ b4 m k).2
  have hpp := hP.hp
  have hpn := hP.hl
  have z1 := na_0 hpn
  have z2 := @na_ne pid n
  try simp only [r40_0, r40_1, r40_2, r40_3, r40_4, c40, F40, hpp, rd_of hpp, z1, na_ne hpn, vs1, x1, x2, x3, x4, go_sem, Int.reduceTMod, Int.reduceTDiv, Int.reduceDiv, Int.reduceMod, Int.reduceAdd, Int.reduceSub, Int.reduceMul, Int.reduceNeg, Int.reducePow, Int.reduceEq, ↓reduceIte, Nat.reduceEqDiff, Nat.reduceAdd, Nat.reduceMul, Nat.reduceLeDiff, Nat.reduceSub, Nat.reduceLT, Int.reduceToNat, Int.reduceLT, Int.reduceLE, reduceCtorEq]
  repeat' ((first | refine FK_split (fun h_ => ?_) (fun h_ => ?_) | refine GK_split (fun h_ => ?_) (fun h_ => ?_) | refine ite_both (fun h_ => ?_) (fun h_ => ?_)) <;> (try simp only [decide_eq_true_eq, decide_eq_false_iff_not, Bool.not_true, Bool.not_false, Bool.not_eq_true', Bool.not_eq_false', Bool.not_eq_eq_eq_not, Decidable.not_not] at h_) <;> (try simp only [r40_0, r40_1, r40_2, r40_3, r40_4, c40, F40, hpp, rd_of hpp, z1, na_ne hpn, vs1, x1, x2, x3, x4, h_, go_sem, Int.reduceTMod, Int.reduceTDiv, Int.reduceDiv, Int.reduceMod, Int.reduceAdd, Int.reduceSub, Int.reduceMul, Int.reduceNeg, Int.reducePow, Int.reduceEq, ↓reduceIte, Nat.reduceEqDiff, Nat.reduceAdd, Nat.reduceMul, Nat.reduceLeDiff, Nat.reduceSub, Nat.reduceLT, Int.reduceToNat, Int.reduceLT, Int.reduceLE, reduceCtorEq]))
  refine RK_callk ?_
  refine (w_roomP (c := .sl (n + 6) 0 4 (some 4) 2) (l := firstQ a b h) (Or.inr ⟨n + 6, 0, some 4, rfl, by omega, ?_⟩) (by show 4 < 4294967296; decide)).mono ?_
  · rw [rd_frz]
    show rd _ (n + 6) 0 8 = _
    simp only [firstQ, List.flatMap_cons, List.flatMap_nil, go_sem, Int.reduceTMod, Int.reduceTDiv, Int.reduceDiv, Int.reduceMod, Int.reduceAdd, Int.reduceSub, Int.reduceMul, Int.reduceNeg, Int.reducePow, Int.reduceEq, ↓reduceIte, Nat.reduceEqDiff, Nat.reduceAdd, Nat.reduceMul, Nat.reduceLeDiff, Nat.reduceSub, Nat.reduceLT, Int.reduceToNat, Int.reduceLT, Int.reduceLE, reduceCtorEq]
  rintro r1 m1 n1 ⟨rfl, rfl, x, kk, rfl, hk, hx⟩
  rw [Nat.max_self]
  generalize hM1 : unfrz _ (n + 7) _ = M1
  have hsl : RPt M1 (n + 7) (.one (.sl (n + 6) 0 4 (some 4) 2)) (firstQ a b h) := by
    refine Or.inr ⟨n + 6, 0, some 4, rfl, by omega, ?_⟩
    rw [← hM1]
    show rd _ (n + 6) 0 8 = _
    rw [rd_unfrz (by omega)]
    simp only [firstQ, List.flatMap_cons, List.flatMap_nil, go_sem, Int.reduceTMod, Int.reduceTDiv, Int.reduceDiv, Int.reduceMod, Int.reduceAdd, Int.reduceSub, Int.reduceMul, Int.reduceNeg, Int.reducePow, Int.reduceEq, ↓reduceIte, Nat.reduceEqDiff, Nat.reduceAdd, Nat.reduceMul, Nat.reduceLeDiff, Nat.reduceSub, Nat.reduceLT, Int.reduceToNat, Int.reduceLT, Int.reduceLE, reduceCtorEq]
  have hlow : ∀ id, id < n → M1 id = m id := fun id hid => by
    rw [← hM1, unfrz_at, if_pos (by omega)]
    simp only [na_0 hid, na_ne hid, go_sem, Int.reduceTMod, Int.reduceTDiv, Int.reduceDiv, Int.reduceMod, Int.reduceAdd, Int.reduceSub, Int.reduceMul, Int.reduceNeg, Int.reducePow, Int.reduceEq, ↓reduceIte, Nat.reduceEqDiff, Nat.reduceAdd, Nat.reduceMul, Nat.reduceLeDiff, Nat.reduceSub, Nat.reduceLT, Int.reduceToNat, Int.reduceLT, Int.reduceLE, reduceCtorEq]
  have hm2 : M1 (n + 2) = some ⟨[I c.x, I c.y], true⟩ := by rw [← hM1, unfrz_at, if_pos (by omega)]; simp only [go_sem, Int.reduceTMod, Int.reduceTDiv, Int.reduceDiv, Int.reduceMod, Int.reduceAdd, Int.reduceSub, Int.reduceMul, Int.reduceNeg, Int.reducePow, Int.reduceEq, ↓reduceIte, Nat.reduceEqDiff, Nat.reduceAdd, Nat.reduceMul, Nat.reduceLeDiff, Nat.reduceSub, Nat.reduceLT, Int.reduceToNat, Int.reduceLT, Int.reduceLE, reduceCtorEq]
  have hm3 : M1 (n + 3) = some ⟨[I d.x, I d.y], true⟩ := by rw [← hM1, unfrz_at, if_pos (by omega)]; simp only [go_sem, Int.reduceTMod, Int.reduceTDiv, Int.reduceDiv, Int.reduceMod, Int.reduceAdd, Int.reduceSub, Int.reduceMul, Int.reduceNeg, Int.reducePow, Int.reduceEq, ↓reduceIte, Nat.reduceEqDiff, Nat.reduceAdd, Nat.reduceMul, Nat.reduceLeDiff, Nat.reduceSub, Nat.reduceLT, Int.reduceToNat, Int.reduceLT, Int.reduceLE, reduceCtorEq]
  have hm4 : M1 (n + 4) = some ⟨[I (sdQ a b h).x, I (sdQ a b h).y], true⟩ := by rw [← hM1, unfrz_at, if_pos (by omega)]; simp only [go_sem, Int.reduceTMod, Int.reduceTDiv, Int.reduceDiv, Int.reduceMod, Int.reduceAdd, Int.reduceSub, Int.reduceMul, Int.reduceNeg, Int.reducePow, Int.reduceEq, ↓reduceIte, Nat.reduceEqDiff, Nat.reduceAdd, Nat.reduceMul, Nat.reduceLeDiff, Nat.reduceSub, Nat.reduceLT, Int.reduceToNat, Int.reduceLT, Int.reduceLE, reduceCtorEq]
  have hm5 : M1 (n + 5) = some ⟨[I (ahQ a b h).x, I (ahQ a b h).y], true⟩ := by rw [← hM1, unfrz_at, if_pos (by omega)]; simp only [go_sem, Int.reduceTMod, Int.reduceTDiv, Int.reduceDiv, Int.reduceMod, Int.reduceAdd, Int.reduceSub, Int.reduceMul, Int.reduceNeg, Int.reducePow, Int.reduceEq, ↓reduceIte, Nat.reduceEqDiff, Nat.reduceAdd, Nat.reduceMul, Nat.reduceLeDiff, Nat.reduceSub, Nat.reduceLT, Int.reduceToNat, Int.reduceLT, Int.reduceLE, reduceCtorEq]
  have hP1 : Pen pid (n + 4) (n + 5) h its co M1 (n + 7) := hP.avoid (by omega) (by omega) (by omega) (by omega) (by omega) hlow
  · have hsco : ∀ j, sid (.one co) = some j → j < n := fun j hj => (hP.low hall hj).2
    try simp only [r40_0, r40_1, r40_2, r40_3, r40_4, c40, F40, go_sem, Int.reduceTMod, Int.reduceTDiv, Int.reduceDiv, Int.reduceMod, Int.reduceAdd, Int.reduceSub, Int.reduceMul, Int.reduceNeg, Int.reducePow, Int.reduceEq, ↓reduceIte, Nat.reduceEqDiff, Nat.reduceAdd, Nat.reduceMul, Nat.reduceLeDiff, Nat.reduceSub, Nat.reduceLT, Int.reduceToNat, Int.reduceLT, Int.reduceLE, reduceCtorEq]
    repeat' ((first | refine FK_split (fun h_ => ?_) (fun h_ => ?_) | refine GK_split (fun h_ => ?_) (fun h_ => ?_) | refine ite_both (fun h_ => ?_) (fun h_ => ?_)) <;> (try simp only [decide_eq_true_eq, decide_eq_false_iff_not, Bool.not_true, Bool.not_false, Bool.not_eq_true', Bool.not_eq_false', Bool.not_eq_eq_eq_not, Decidable.not_not] at h_) <;> (try simp only [r40_0, r40_1, r40_2, r40_3, r40_4, c40, F40, h_, go_sem, Int.reduceTMod, Int.reduceTDiv, Int.reduceDiv, Int.reduceMod, Int.reduceAdd, Int.reduceSub, Int.reduceMul, Int.reduceNeg, Int.reducePow, Int.reduceEq, ↓reduceIte, Nat.reduceEqDiff, Nat.reduceAdd, Nat.reduceMul, Nat.reduceLeDiff, Nat.reduceSub, Nat.reduceLT, Int.reduceToNat, Int.reduceLT, Int.reduceLE, reduceCtorEq]))
    refine RK_callw ?_
    refine (w_leave (l := firstQ a b h) hk hP1 (by omega) (fun _ ho => ?_)).mono ?_
    · rw [hx ho]
      refine ⟨hsl, fun id hid => ?_⟩
      simp only [sid, Option.some.injEq] at hid
      refine ⟨by omega, fun e => ?_⟩
      have := hsco id e
      omega
    rintro r2 m2 n2 ⟨hn2, hF, co2, hP2, hco2, _⟩
    have hF2 := hF.low hP1
    have fr : ∀ j, n ≤ j → j < n + 7 → m2 j = M1 j := fun j k1 k2 => hF j k2 (by omega) (fun _ e => by have := hsco j e; omega)
    have g2 : m2 (n + 2) = some ⟨[I c.x, I c.y], true⟩ := by rw [fr _ (by omega) (by omega)]; exact hm2
    have g3 : m2 (n + 3) = some ⟨[I d.x, I d.y], true⟩ := by rw [fr _ (by omega) (by omega)]; exact hm3
    have g4 : m2 (n + 4) = some ⟨[I (sdQ a b h).x, I (sdQ a b h).y], true⟩ := by rw [fr _ (by omega) (by omega)]; exact hm4
    have g5 : m2 (n + 5) = some ⟨[I (ahQ a b h).x, I (ahQ a b h).y], true⟩ := by rw [fr _ (by omega) (by omega)]; exact hm5
    have hpp2 := hP2.hp
    have e1 : (n + 2 = n2) = False := eq_false (by omega)
    have e2 : (n + 3 = n2) = False := eq_false (by omega)
    have e3 : (n + 4 = n2) = False := eq_false (by omega)
    have e4 : (n + 5 = n2) = False := eq_false (by omega)
    have e5 : (n2 = n + 4) = False := eq_false (by omega)
    have e6 : (n2 = n + 5) = False := eq_false (by omega)
    have e7 : (pid = n + 4) = False := eq_false (by omega)
    have e8 : (pid = n + 5) = False := eq_false (by omega)
    try simp only [r40_0, r40_1, r40_2, r40_3, r40_4, c40, F40, hpp2, rd_of hpp2, g2, g3, g4, g5, rd_of g2, rd_of g3, rd_of g4, rd_of g5, e1, e2, e3, e4, e5, e6, e7, e8, vs2, y1, y2, y3, y4, go_sem, Int.reduceTMod, Int.reduceTDiv, Int.reduceDiv, Int.reduceMod, Int.reduceAdd, Int.reduceSub, Int.reduceMul, Int.reduceNeg, Int.reducePow, Int.reduceEq, ↓reduceIte, Nat.reduceEqDiff, Nat.reduceAdd, Nat.reduceMul, Nat.reduceLeDiff, Nat.reduceSub, Nat.reduceLT, Int.reduceToNat, Int.reduceLT, Int.reduceLE, reduceCtorEq]
    repeat' ((first | refine FK_split (fun h_ => ?_) (fun h_ => ?_) | refine GK_split (fun h_ => ?_) (fun h_ => ?_) | refine ite_both (fun h_ => ?_) (fun h_ => ?_)) <;> (try simp only [decide_eq_true_eq, decide_eq_false_iff_not, Bool.not_true, Bool.not_false, Bool.not_eq_true', Bool.not_eq_false', Bool.not_eq_eq_eq_not, Decidable.not_not] at h_) <;> (try simp only [r40_0, r40_1, r40_2, r40_3, r40_4, c40, F40, hpp2, rd_of hpp2, g2, g3, g4, g5, rd_of g2, rd_of g3, rd_of g4, rd_of g5, e1, e2, e3, e4, e5, e6, e7, e8, vs2, y1, y2, y3, y4, h_, go_sem, Int.reduceTMod, Int.reduceTDiv, Int.reduceDiv, Int.reduceMod, Int.reduceAdd, Int.reduceSub, Int.reduceMul, Int.reduceNeg, Int.reducePow, Int.reduceEq, ↓reduceIte, Nat.reduceEqDiff, Nat.reduceAdd, Nat.reduceMul, Nat.reduceLeDiff, Nat.reduceSub, Nat.reduceLT, Int.reduceToNat, Int.reduceLT, Int.reduceLE, reduceCtorEq]))
    refine RK_callk ?_
    refine (w_roomP (c := .sl n2 0 4 (some 4) 2) (l := lastQ c d h) (Or.inr ⟨n2, 0, some 4, rfl, by omega, ?_⟩) (by show 4 < 4294967296; decide)).mono ?_
    · rw [rd_frz]
      show rd _ n2 0 8 = _
      simp only [lastQ, List.flatMap_cons, List.flatMap_nil, go_sem, Int.reduceTMod, Int.reduceTDiv, Int.reduceDiv, Int.reduceMod, Int.reduceAdd, Int.reduceSub, Int.reduceMul, Int.reduceNeg, Int.reducePow, Int.reduceEq, ↓reduceIte, Nat.reduceEqDiff, Nat.reduceAdd, Nat.reduceMul, Nat.reduceLeDiff, Nat.reduceSub, Nat.reduceLT, Int.reduceToNat, Int.reduceLT, Int.reduceLE, reduceCtorEq]
    rintro r3 m3 n3 ⟨rfl, rfl, x', kk', rfl, hk', hx'⟩
    rw [Nat.max_self]
    generalize hM3 : unfrz _ (n2 + 1) _ = M3
    have hsl3 : RPt M3 (n2 + 1) (.one (.sl n2 0 4 (some 4) 2)) (lastQ c d h) := by
      refine Or.inr ⟨n2, 0, some 4, rfl, by omega, ?_⟩
      rw [← hM3]
      show rd _ n2 0 8 = _
      rw [rd_unfrz (by omega)]
      simp only [lastQ, List.flatMap_cons, List.flatMap_nil, go_sem, Int.reduceTMod, Int.reduceTDiv, Int.reduceDiv, Int.reduceMod, Int.reduceAdd, Int.reduceSub, Int.reduceMul, Int.reduceNeg, Int.reducePow, Int.reduceEq, ↓reduceIte, Nat.reduceEqDiff, Nat.reduceAdd, Nat.reduceMul, Nat.reduceLeDiff, Nat.reduceSub, Nat.reduceLT, Int.reduceToNat, Int.reduceLT, Int.reduceLE, reduceCtorEq]
    have hfr3 : ∀ id, id < n2 → id ≠ n + 4 → id ≠ n + 5 → M3 id = m2 id := fun id k1 k2 k3 => by
      rw [← hM3, unfrz_at, if_pos (by omega)]
      simp only [na_0 k1, k2, k3, go_sem, Int.reduceTMod, Int.reduceTDiv, Int.reduceDiv, Int.reduceMod, Int.reduceAdd, Int.reduceSub, Int.reduceMul, Int.reduceNeg, Int.reducePow, Int.reduceEq, ↓reduceIte, Nat.reduceEqDiff, Nat.reduceAdd, Nat.reduceMul, Nat.reduceLeDiff, Nat.reduceSub, Nat.reduceLT, Int.reduceToNat, Int.reduceLT, Int.reduceLE, reduceCtorEq]
    have hP3 : Pen pid (n + 4) (n + 5) h (its ++ [firstI h a b]) co2 M3 (n2 + 1) := hP2.keepX (by omega) (by omega) (by omega) hfr3
    try simp only [r40_0, r40_1, r40_2, r40_3, r40_4, c40, F40, go_sem, Int.reduceTMod, Int.reduceTDiv, Int.reduceDiv, Int.reduceMod, Int.reduceAdd, Int.reduceSub, Int.reduceMul, Int.reduceNeg, Int.reducePow, Int.reduceEq, ↓reduceIte, Nat.reduceEqDiff, Nat.reduceAdd, Nat.reduceMul, Nat.reduceLeDiff, Nat.reduceSub, Nat.reduceLT, Int.reduceToNat, Int.reduceLT, Int.reduceLE, reduceCtorEq]
    repeat' ((first | refine FK_split (fun h_ => ?_) (fun h_ => ?_) | refine GK_split (fun h_ => ?_) (fun h_ => ?_) | refine ite_both (fun h_ => ?_) (fun h_ => ?_)) <;> (try simp only [decide_eq_true_eq, decide_eq_false_iff_not, Bool.not_true, Bool.not_false, Bool.not_eq_true', Bool.not_eq_false', Bool.not_eq_eq_eq_not, Decidable.not_not] at h_) <;> (try simp only [r40_0, r40_1, r40_2, r40_3, r40_4, c40, F40, h_, go_sem, Int.reduceTMod, Int.reduceTDiv, Int.reduceDiv, Int.reduceMod, Int.reduceAdd, Int.reduceSub, Int.reduceMul, Int.reduceNeg, Int.reducePow, Int.reduceEq, ↓reduceIte, Nat.reduceEqDiff, Nat.reduceAdd, Nat.reduceMul, Nat.reduceLeDiff, Nat.reduceSub, Nat.reduceLT, Int.reduceToNat, Int.reduceLT, Int.reduceLE, reduceCtorEq]))
    refine RK_callw ?_
    refine (w_leave (l := lastQ c d h) hk' hP3 (by rw [List.length_append, List.length_singleton]; omega) (fun hal ho => ?_)).mono ?_
    · rw [hx' ho]
      refine ⟨hsl3, fun id hid => ?_⟩
      simp only [sid, Option.some.injEq] at hid
      refine ⟨by omega, fun e => ?_⟩
      have := (hP2.low hal e).2
      omega
    rintro r4 m4 n4 ⟨hn4, hF4, co4, hP4, _, _⟩
    have hF5 := hF4.low hP3
    try simp only [go_sem, Int.reduceTMod, Int.reduceTDiv, Int.reduceDiv, Int.reduceMod, Int.reduceAdd, Int.reduceSub, Int.reduceMul, Int.reduceNeg, Int.reducePow, Int.reduceEq, ↓reduceIte, Nat.reduceEqDiff, Nat.reduceAdd, Nat.reduceMul, Nat.reduceLeDiff, Nat.reduceSub, Nat.reduceLT, Int.reduceToNat, Int.reduceLT, Int.reduceLE, reduceCtorEq]
    repeat' ((first | refine FK_split (fun h_ => ?_) (fun h_ => ?_) | refine GK_split (fun h_ => ?_) (fun h_ => ?_) | refine ite_both (fun h_ => ?_) (fun h_ => ?_)) <;> (try simp only [decide_eq_true_eq, decide_eq_false_iff_not, Bool.not_true, Bool.not_false, Bool.not_eq_true', Bool.not_eq_false', Bool.not_eq_eq_eq_not, Decidable.not_not] at h_) <;> (try simp only [h_, go_sem, Int.reduceTMod, Int.reduceTDiv, Int.reduceDiv, Int.reduceMod, Int.reduceAdd, Int.reduceSub, Int.reduceMul, Int.reduceNeg, Int.reducePow, Int.reduceEq, ↓reduceIte, Nat.reduceEqDiff, Nat.reduceAdd, Nat.reduceMul, Nat.reduceLeDiff, Nat.reduceSub, Nat.reduceLT, Int.reduceToNat, Int.reduceLT, Int.reduceLE, reduceCtorEq]))
    refine ⟨by omega, fun id hid => ?_, co4, hP4⟩
    rw [hF5 id hid, hfr3 id (by omega) (by omega) (by omega), hF2 id hid]
    exact hlow id (by omega)

/- Ends that are told twice. Conditions: those that each theorem names. -/
open Go Go.Proofs
set_option linter.unusedSimpArgs false
set_option linter.unusedVariables false

/-- Without the ends that are the beginning once more. -/
def dropE (p : List Pt) : List Pt := if h : 1 < p.length ∧ p[p.length - 1]? = p[0]? then dropE (p.take (p.length - 1)) else p
termination_by p.length
decreasing_by rw [List.length_take]; omega
theorem dropE_len (p : List Pt) : (dropE p).length ≤ p.length := by
  rw [dropE]
  split
  · have := dropE_len (p.take (p.length - 1))
    rw [List.length_take] at this
    omega
  · exact Nat.le_refl _
termination_by p.length
decreasing_by rw [List.length_take]; omega
theorem flat_take (l : List Pt) (k : Nat) : (l.flatMap Pt.cs).take (k * 2) = (l.take k).flatMap Pt.cs := by
  induction l generalizing k with
  | nil => simp
  | cons x l ih =>
    cases k with
    | zero => simp
    | succ k =>
      rw [show (k + 1) * 2 = k * 2 + 1 + 1 by omega]
      simp [ih k]
theorem RL.front {m : Mem} {n id off : Nat} {l : List Pt} {k : Nat} (h : RPt m n (.one (.sl id off l.length none 2)) l) (hk : k ≤ l.length) : RPt m n (.one (.sl id off k none 2)) (l.take k) := by
  rcases h with ⟨h, _⟩ | ⟨id', off', cap, h1, h2, h3⟩
  · cases h
  · simp only [Reg.one.injEq, Cell.sl.injEq, true_and, and_true] at h1
    obtain ⟨rfl, rfl, _⟩ := h1
    have hlen : (l.take k).length = k := by rw [List.length_take]; omega
    refine Or.inr ⟨id, off, none, by rw [hlen], h2, ?_⟩
    have := rd_part (a := 0) (b := k * 2) h3 (by omega)
    rw [hlen]
    rw [Nat.add_zero] at this
    rw [this, List.drop_zero, flat_take]
theorem drop_loop {K : Kt} {m : Mem} {n tid : Nat} {p : List Pt} {r : Reg} {c0 : Cell} {c o : Bool} {h cp : Int} {P : Nat → Prop} (hb : m tid = some ⟨[c0, .sc (.bool c)], o⟩) (hr : RPt m n r p) (hl : p.length < 4294967296) (hc : 1 < p.length → ∃ id off, r = .one (.sl id off p.length none 2)) (hP : ∀ id, sid r = some id → P id)
    {e : Nat → Reg} (e1 : e 1 = RI h) (e2 : e 2 = RI cp) (e3 : e 3 = .one (.ptr tid 0)) (e8 : e 8 = r)
    (hK : ∀ s, s.e 1 = RI h → s.e 2 = RI cp → s.e 3 = .one (.ptr tid 0) → s.m = m → s.n = n → RPt m n (s.e 8) (if c = true then dropE p else p) → (∀ id, sid (s.e 8) = some id → P id) → KX TA K 0 s) :
    XK TA (.loop l17_0) ⟨e, m, n⟩ K := by
  refine XK_down (inv := fun d s => s.e 1 = RI h ∧ s.e 2 = RI cp ∧ s.e 3 = .one (.ptr tid 0) ∧ s.m = m ∧ s.n = n ∧ ∃ q, RPt m n (s.e 8) q ∧ (1 < q.length → ∃ id off, s.e 8 = .one (.sl id off q.length none 2)) ∧ (∀ id, sid (s.e 8) = some id → P id) ∧ q.length < 4294967296 ∧ d = q.length ∧ (if c = true then dropE q else q) = (if c = true then dropE p else p))
    (fun L _ d s hs next => ?_) p.length _ ?_
  · obtain ⟨e, M, N⟩ := s
    obtain ⟨q1, q2, q3, qm, qn, q, hr1, hc1, hP1, hl1, hd, heq⟩ := hs
    simp only at q1 q2 q3 qm qn hr1 hc1 hP1
    subst qm
    subst qn
    have hlen := hr1.len
    cases hcc : c
    · subst hcc
      simp only [Bool.false_eq_true, if_false] at heq hK
      try simp only [r17_0, r17_1, r17_2, r17_3, r17_4, r17_5, r17_6, r17_7, r17_8, r17_9, r17_10, r17_11, r17_12, r17_13, r17_14, r17_15, r17_16, r17_17, r17_18, r17_19, r17_20, r17_21, r17_22, r17_23, r17_24, c17, F17, l17_0, q1, q2, q3, hb, hlen, go_sem, Int.reduceTMod, Int.reduceTDiv, Int.reduceDiv, Int.reduceMod, Int.reduceAdd, Int.reduceSub, Int.reduceMul, Int.reduceNeg, Int.reducePow, Int.reduceEq, ↓reduceIte, Nat.reduceEqDiff, Nat.reduceAdd, Nat.reduceMul, Nat.reduceLeDiff, Nat.reduceSub, Nat.reduceLT, Int.reduceToNat, Int.reduceLT, Int.reduceLE, reduceCtorEq]
      repeat' ((first | refine FK_split (fun h_ => ?_) (fun h_ => ?_) | refine GK_split (fun h_ => ?_) (fun h_ => ?_) | refine ite_both (fun h_ => ?_) (fun h_ => ?_)) <;> (try simp only [decide_eq_true_eq, decide_eq_false_iff_not, Bool.not_true, Bool.not_false, Bool.not_eq_true', Bool.not_eq_false', Bool.not_eq_eq_eq_not, Decidable.not_not] at h_) <;> (try simp only [r17_0, r17_1, r17_2, r17_3, r17_4, r17_5, r17_6, r17_7, r17_8, r17_9, r17_10, r17_11, r17_12, r17_13, r17_14, r17_15, r17_16, r17_17, r17_18, r17_19, r17_20, r17_21, r17_22, r17_23, r17_24, c17, F17, l17_0, q1, q2, q3, hb, hlen, h_, go_sem, Int.reduceTMod, Int.reduceTDiv, Int.reduceDiv, Int.reduceMod, Int.reduceAdd, Int.reduceSub, Int.reduceMul, Int.reduceNeg, Int.reducePow, Int.reduceEq, ↓reduceIte, Nat.reduceEqDiff, Nat.reduceAdd, Nat.reduceMul, Nat.reduceLeDiff, Nat.reduceSub, Nat.reduceLT, Int.reduceToNat, Int.reduceLT, Int.reduceLE, reduceCtorEq]))
      refine hK _ ?_ ?_ ?_ rfl rfl ?_ ?_
      · simp only [q1, go_sem, Int.reduceTMod, Int.reduceTDiv, Int.reduceDiv, Int.reduceMod, Int.reduceAdd, Int.reduceSub, Int.reduceMul, Int.reduceNeg, Int.reducePow, Int.reduceEq, ↓reduceIte, Nat.reduceEqDiff, Nat.reduceAdd, Nat.reduceMul, Nat.reduceLeDiff, Nat.reduceSub, Nat.reduceLT, Int.reduceToNat, Int.reduceLT, Int.reduceLE, reduceCtorEq]
      · simp only [q2, go_sem, Int.reduceTMod, Int.reduceTDiv, Int.reduceDiv, Int.reduceMod, Int.reduceAdd, Int.reduceSub, Int.reduceMul, Int.reduceNeg, Int.reducePow, Int.reduceEq, ↓reduceIte, Nat.reduceEqDiff, Nat.reduceAdd, Nat.reduceMul, Nat.reduceLeDiff, Nat.reduceSub, Nat.reduceLT, Int.reduceToNat, Int.reduceLT, Int.reduceLE, reduceCtorEq]
      · simp only [q3, go_sem, Int.reduceTMod, Int.reduceTDiv, Int.reduceDiv, Int.reduceMod, Int.reduceAdd, Int.reduceSub, Int.reduceMul, Int.reduceNeg, Int.reducePow, Int.reduceEq, ↓reduceIte, Nat.reduceEqDiff, Nat.reduceAdd, Nat.reduceMul, Nat.reduceLeDiff, Nat.reduceSub, Nat.reduceLT, Int.reduceToNat, Int.reduceLT, Int.reduceLE, reduceCtorEq]
      · simp only [go_sem, Int.reduceTMod, Int.reduceTDiv, Int.reduceDiv, Int.reduceMod, Int.reduceAdd, Int.reduceSub, Int.reduceMul, Int.reduceNeg, Int.reducePow, Int.reduceEq, ↓reduceIte, Nat.reduceEqDiff, Nat.reduceAdd, Nat.reduceMul, Nat.reduceLeDiff, Nat.reduceSub, Nat.reduceLT, Int.reduceToNat, Int.reduceLT, Int.reduceLE, reduceCtorEq]
        rw [← heq]
        exact hr1
      · simp only [go_sem, Int.reduceTMod, Int.reduceTDiv, Int.reduceDiv, Int.reduceMod, Int.reduceAdd, Int.reduceSub, Int.reduceMul, Int.reduceNeg, Int.reducePow, Int.reduceEq, ↓reduceIte, Nat.reduceEqDiff, Nat.reduceAdd, Nat.reduceMul, Nat.reduceLeDiff, Nat.reduceSub, Nat.reduceLT, Int.reduceToNat, Int.reduceLT, Int.reduceLE, reduceCtorEq]
        exact hP1
    · subst hcc
      simp only [if_true] at heq hK
      by_cases g1 : 1 < q.length
      · have g1' : ((1 : Int) < (q.length : Int)) = True := eq_true (by omega)
        have hf : q[0]? = some (q[0]'(by omega)) := List.getElem?_eq_getElem (by omega)
        have hg : q[q.length - 1]? = some (q[q.length - 1]'(by omega)) := List.getElem?_eq_getElem (by omega)
        obtain ⟨id, off, hrr⟩ := hc1 g1
        obtain ⟨id', off', cap', hra, hid, hrd⟩ := hr1.at cs2 hf
        obtain ⟨id2, off2, cap2, hra', hid', hrd'⟩ := hr1.at cs2 hg
        rw [hrr] at hra hra'
        simp only [Reg.one.injEq, Cell.sl.injEq, true_and] at hra hra'
        obtain ⟨rfl, rfl, rfl, _⟩ := hra
        obtain ⟨rfl, rfl, _, _⟩ := hra'
        rw [Nat.zero_mul, Nat.add_zero] at hrd
        have c5 : IntKind.i64.wrap ((q.length : Int) - 1) = ((q.length - 1 : Nat) : Int) := (wr_eq (by omega) (by omega)).trans (by omega)
        have c6 : (((q.length - 1 : Nat) : Int) < (q.length : Int)) = True := eq_true (by omega)
        have c8 : (0 ≤ ((q.length - 1 : Nat) : Int)) = True := eq_true (by omega)
        have c9 : ((0 : Int) < (q.length : Int)) = True := eq_true (by omega)
        have hde : dropE q = if (q[q.length - 1]'(by omega)) = (q[0]'(by omega)) then dropE (q.take (q.length - 1)) else q := by
          rw [dropE, hf, hg]
          by_cases e : (q[q.length - 1]'(by omega)) = (q[0]'(by omega))
          · rw [if_pos e, dif_pos ⟨g1, by rw [e]⟩]
          · rw [if_neg e, dif_neg (fun h => e (Option.some.inj h.2))]
        have hfront := RL.front (k := q.length - 1) (by rw [← hrr]; exact hr1) (by omega)
        have hbn := bnds_hi (len := q.length) (i := q.length - 1) (by omega)
        generalize (q[0]'(by omega)) = u at *
        generalize (q[q.length - 1]'(by omega)) = v at *
        by_cases e : v = u
        · have heb := pt_eb e
          rw [if_pos e] at hde
          try simp only [r17_0, r17_1, r17_2, r17_3, r17_4, r17_5, r17_6, r17_7, r17_8, r17_9, r17_10, r17_11, r17_12, r17_13, r17_14, r17_15, r17_16, r17_17, r17_18, r17_19, r17_20, r17_21, r17_22, r17_23, r17_24, c17, F17, l17_0, q1, q2, q3, hrr, hb, g1', c5, c6, c8, c9, hrd, hrd', heb, hbn, lenO, Int.toNat_natCast, Int.toNat_zero, Int.reduceToNat, Nat.zero_mul, Nat.add_zero, Option.map_none, Option.map_some, Nat.sub_zero, go_sem, Int.reduceTMod, Int.reduceTDiv, Int.reduceDiv, Int.reduceMod, Int.reduceAdd, Int.reduceSub, Int.reduceMul, Int.reduceNeg, Int.reducePow, Int.reduceEq, ↓reduceIte, Nat.reduceEqDiff, Nat.reduceAdd, Nat.reduceMul, Nat.reduceLeDiff, Nat.reduceSub, Nat.reduceLT, Int.reduceToNat, Int.reduceLT, Int.reduceLE, reduceCtorEq]
          repeat' ((first | refine FK_split (fun h_ => ?_) (fun h_ => ?_) | refine GK_split (fun h_ => ?_) (fun h_ => ?_) | refine ite_both (fun h_ => ?_) (fun h_ => ?_)) <;> (try simp only [decide_eq_true_eq, decide_eq_false_iff_not, Bool.not_true, Bool.not_false, Bool.not_eq_true', Bool.not_eq_false', Bool.not_eq_eq_eq_not, Decidable.not_not] at h_) <;> (try simp only [r17_0, r17_1, r17_2, r17_3, r17_4, r17_5, r17_6, r17_7, r17_8, r17_9, r17_10, r17_11, r17_12, r17_13, r17_14, r17_15, r17_16, r17_17, r17_18, r17_19, r17_20, r17_21, r17_22, r17_23, r17_24, c17, F17, l17_0, q1, q2, q3, hrr, hb, g1', c5, c6, c8, c9, hrd, hrd', heb, hbn, lenO, Int.toNat_natCast, Int.toNat_zero, Int.reduceToNat, Nat.zero_mul, Nat.add_zero, Option.map_none, Option.map_some, Nat.sub_zero, h_, go_sem, Int.reduceTMod, Int.reduceTDiv, Int.reduceDiv, Int.reduceMod, Int.reduceAdd, Int.reduceSub, Int.reduceMul, Int.reduceNeg, Int.reducePow, Int.reduceEq, ↓reduceIte, Nat.reduceEqDiff, Nat.reduceAdd, Nat.reduceMul, Nat.reduceLeDiff, Nat.reduceSub, Nat.reduceLT, Int.reduceToNat, Int.reduceLT, Int.reduceLE, reduceCtorEq]))
          refine next (q.length - 1) _ (by omega) ⟨?_, ?_, ?_, rfl, rfl, q.take (q.length - 1), ?_, ?_, ?_, ?_, ?_, ?_⟩
          · simp only [q1, go_sem, Int.reduceTMod, Int.reduceTDiv, Int.reduceDiv, Int.reduceMod, Int.reduceAdd, Int.reduceSub, Int.reduceMul, Int.reduceNeg, Int.reducePow, Int.reduceEq, ↓reduceIte, Nat.reduceEqDiff, Nat.reduceAdd, Nat.reduceMul, Nat.reduceLeDiff, Nat.reduceSub, Nat.reduceLT, Int.reduceToNat, Int.reduceLT, Int.reduceLE, reduceCtorEq]
          · simp only [q2, go_sem, Int.reduceTMod, Int.reduceTDiv, Int.reduceDiv, Int.reduceMod, Int.reduceAdd, Int.reduceSub, Int.reduceMul, Int.reduceNeg, Int.reducePow, Int.reduceEq, ↓reduceIte, Nat.reduceEqDiff, Nat.reduceAdd, Nat.reduceMul, Nat.reduceLeDiff, Nat.reduceSub, Nat.reduceLT, Int.reduceToNat, Int.reduceLT, Int.reduceLE, reduceCtorEq]
          · simp only [q3, go_sem, Int.reduceTMod, Int.reduceTDiv, Int.reduceDiv, Int.reduceMod, Int.reduceAdd, Int.reduceSub, Int.reduceMul, Int.reduceNeg, Int.reducePow, Int.reduceEq, ↓reduceIte, Nat.reduceEqDiff, Nat.reduceAdd, Nat.reduceMul, Nat.reduceLeDiff, Nat.reduceSub, Nat.reduceLT, Int.reduceToNat, Int.reduceLT, Int.reduceLE, reduceCtorEq]
          · simp only [go_sem, Int.reduceTMod, Int.reduceTDiv, Int.reduceDiv, Int.reduceMod, Int.reduceAdd, Int.reduceSub, Int.reduceMul, Int.reduceNeg, Int.reducePow, Int.reduceEq, ↓reduceIte, Nat.reduceEqDiff, Nat.reduceAdd, Nat.reduceMul, Nat.reduceLeDiff, Nat.reduceSub, Nat.reduceLT, Int.reduceToNat, Int.reduceLT, Int.reduceLE, reduceCtorEq]
            exact hfront
          · intro _
            refine ⟨id, off, ?_⟩
            simp only [go_sem, Int.reduceTMod, Int.reduceTDiv, Int.reduceDiv, Int.reduceMod, Int.reduceAdd, Int.reduceSub, Int.reduceMul, Int.reduceNeg, Int.reducePow, Int.reduceEq, ↓reduceIte, Nat.reduceEqDiff, Nat.reduceAdd, Nat.reduceMul, Nat.reduceLeDiff, Nat.reduceSub, Nat.reduceLT, Int.reduceToNat, Int.reduceLT, Int.reduceLE, reduceCtorEq]
            rw [List.length_take]; congr 2; omega
          · simp only [go_sem, Int.reduceTMod, Int.reduceTDiv, Int.reduceDiv, Int.reduceMod, Int.reduceAdd, Int.reduceSub, Int.reduceMul, Int.reduceNeg, Int.reducePow, Int.reduceEq, ↓reduceIte, Nat.reduceEqDiff, Nat.reduceAdd, Nat.reduceMul, Nat.reduceLeDiff, Nat.reduceSub, Nat.reduceLT, Int.reduceToNat, Int.reduceLT, Int.reduceLE, reduceCtorEq]
            intro j hj
            exact hP1 j (by rw [hrr]; exact hj)
          · rw [List.length_take]; omega
          · rw [List.length_take]; omega
          · rw [if_pos rfl, if_pos rfl, ← hde, heq]
        · have heb := pt_nb e
          rw [if_neg e] at hde
          try simp only [r17_0, r17_1, r17_2, r17_3, r17_4, r17_5, r17_6, r17_7, r17_8, r17_9, r17_10, r17_11, r17_12, r17_13, r17_14, r17_15, r17_16, r17_17, r17_18, r17_19, r17_20, r17_21, r17_22, r17_23, r17_24, c17, F17, l17_0, q1, q2, q3, hrr, hb, g1', c5, c6, c8, c9, hrd, hrd', heb, lenO, Int.toNat_natCast, Int.toNat_zero, Int.reduceToNat, Nat.zero_mul, Nat.add_zero, go_sem, Int.reduceTMod, Int.reduceTDiv, Int.reduceDiv, Int.reduceMod, Int.reduceAdd, Int.reduceSub, Int.reduceMul, Int.reduceNeg, Int.reducePow, Int.reduceEq, ↓reduceIte, Nat.reduceEqDiff, Nat.reduceAdd, Nat.reduceMul, Nat.reduceLeDiff, Nat.reduceSub, Nat.reduceLT, Int.reduceToNat, Int.reduceLT, Int.reduceLE, reduceCtorEq]
          repeat' ((first | refine FK_split (fun h_ => ?_) (fun h_ => ?_) | refine GK_split (fun h_ => ?_) (fun h_ => ?_) | refine ite_both (fun h_ => ?_) (fun h_ => ?_)) <;> (try simp only [decide_eq_true_eq, decide_eq_false_iff_not, Bool.not_true, Bool.not_false, Bool.not_eq_true', Bool.not_eq_false', Bool.not_eq_eq_eq_not, Decidable.not_not] at h_) <;> (try simp only [r17_0, r17_1, r17_2, r17_3, r17_4, r17_5, r17_6, r17_7, r17_8, r17_9, r17_10, r17_11, r17_12, r17_13, r17_14, r17_15, r17_16, r17_17, r17_18, r17_19, r17_20, r17_21, r17_22, r17_23, r17_24, c17, F17, l17_0, q1, q2, q3, hrr, hb, g1', c5, c6, c8, c9, hrd, hrd', heb, lenO, Int.toNat_natCast, Int.toNat_zero, Int.reduceToNat, Nat.zero_mul, Nat.add_zero, h_, go_sem, Int.reduceTMod, Int.reduceTDiv, Int.reduceDiv, Int.reduceMod, Int.reduceAdd, Int.reduceSub, Int.reduceMul, Int.reduceNeg, Int.reducePow, Int.reduceEq, ↓reduceIte, Nat.reduceEqDiff, Nat.reduceAdd, Nat.reduceMul, Nat.reduceLeDiff, Nat.reduceSub, Nat.reduceLT, Int.reduceToNat, Int.reduceLT, Int.reduceLE, reduceCtorEq]))
          refine hK _ ?_ ?_ ?_ rfl rfl ?_ ?_
          · simp only [q1, go_sem, Int.reduceTMod, Int.reduceTDiv, Int.reduceDiv, Int.reduceMod, Int.reduceAdd, Int.reduceSub, Int.reduceMul, Int.reduceNeg, Int.reducePow, Int.reduceEq, ↓reduceIte, Nat.reduceEqDiff, Nat.reduceAdd, Nat.reduceMul, Nat.reduceLeDiff, Nat.reduceSub, Nat.reduceLT, Int.reduceToNat, Int.reduceLT, Int.reduceLE, reduceCtorEq]
          · simp only [q2, go_sem, Int.reduceTMod, Int.reduceTDiv, Int.reduceDiv, Int.reduceMod, Int.reduceAdd, Int.reduceSub, Int.reduceMul, Int.reduceNeg, Int.reducePow, Int.reduceEq, ↓reduceIte, Nat.reduceEqDiff, Nat.reduceAdd, Nat.reduceMul, Nat.reduceLeDiff, Nat.reduceSub, Nat.reduceLT, Int.reduceToNat, Int.reduceLT, Int.reduceLE, reduceCtorEq]
          · simp only [q3, go_sem, Int.reduceTMod, Int.reduceTDiv, Int.reduceDiv, Int.reduceMod, Int.reduceAdd, Int.reduceSub, Int.reduceMul, Int.reduceNeg, Int.reducePow, Int.reduceEq, ↓reduceIte, Nat.reduceEqDiff, Nat.reduceAdd, Nat.reduceMul, Nat.reduceLeDiff, Nat.reduceSub, Nat.reduceLT, Int.reduceToNat, Int.reduceLT, Int.reduceLE, reduceCtorEq]
          · simp only [go_sem, Int.reduceTMod, Int.reduceTDiv, Int.reduceDiv, Int.reduceMod, Int.reduceAdd, Int.reduceSub, Int.reduceMul, Int.reduceNeg, Int.reducePow, Int.reduceEq, ↓reduceIte, Nat.reduceEqDiff, Nat.reduceAdd, Nat.reduceMul, Nat.reduceLeDiff, Nat.reduceSub, Nat.reduceLT, Int.reduceToNat, Int.reduceLT, Int.reduceLE, reduceCtorEq]
            rw [← heq, hde]
            exact hr1
          · simp only [go_sem, Int.reduceTMod, Int.reduceTDiv, Int.reduceDiv, Int.reduceMod, Int.reduceAdd, Int.reduceSub, Int.reduceMul, Int.reduceNeg, Int.reducePow, Int.reduceEq, ↓reduceIte, Nat.reduceEqDiff, Nat.reduceAdd, Nat.reduceMul, Nat.reduceLeDiff, Nat.reduceSub, Nat.reduceLT, Int.reduceToNat, Int.reduceLT, Int.reduceLE, reduceCtorEq]
            exact hP1
      · have g1' : ((1 : Int) < (q.length : Int)) = False := eq_false (by omega)
        have hde : dropE q = q := by rw [dropE, dif_neg (fun h => g1 h.1)]
        try simp only [r17_0, r17_1, r17_2, r17_3, r17_4, r17_5, r17_6, r17_7, r17_8, r17_9, r17_10, r17_11, r17_12, r17_13, r17_14, r17_15, r17_16, r17_17, r17_18, r17_19, r17_20, r17_21, r17_22, r17_23, r17_24, c17, F17, l17_0, q1, q2, q3, hb, hlen, g1', go_sem, Int.reduceTMod, Int.reduceTDiv, Int.reduceDiv, Int.reduceMod, Int.reduceAdd, Int.reduceSub, Int.reduceMul, Int.reduceNeg, Int.reducePow, Int.reduceEq, ↓reduceIte, Nat.reduceEqDiff, Nat.reduceAdd, Nat.reduceMul, Nat.reduceLeDiff, Nat.reduceSub, Nat.reduceLT, Int.reduceToNat, Int.reduceLT, Int.reduceLE, reduceCtorEq]
        repeat' ((first | refine FK_split (fun h_ => ?_) (fun h_ => ?_) | refine GK_split (fun h_ => ?_) (fun h_ => ?_) | refine ite_both (fun h_ => ?_) (fun h_ => ?_)) <;> (try simp only [decide_eq_true_eq, decide_eq_false_iff_not, Bool.not_true, Bool.not_false, Bool.not_eq_true', Bool.not_eq_false', Bool.not_eq_eq_eq_not, Decidable.not_not] at h_) <;> (try simp only [r17_0, r17_1, r17_2, r17_3, r17_4, r17_5, r17_6, r17_7, r17_8, r17_9, r17_10, r17_11, r17_12, r17_13, r17_14, r17_15, r17_16, r17_17, r17_18, r17_19, r17_20, r17_21, r17_22, r17_23, r17_24, c17, F17, l17_0, q1, q2, q3, hb, hlen, g1', h_, go_sem, Int.reduceTMod, Int.reduceTDiv, Int.reduceDiv, Int.reduceMod, Int.reduceAdd, Int.reduceSub, Int.reduceMul, Int.reduceNeg, Int.reducePow, Int.reduceEq, ↓reduceIte, Nat.reduceEqDiff, Nat.reduceAdd, Nat.reduceMul, Nat.reduceLeDiff, Nat.reduceSub, Nat.reduceLT, Int.reduceToNat, Int.reduceLT, Int.reduceLE, reduceCtorEq]))
        refine hK _ ?_ ?_ ?_ rfl rfl ?_ ?_
        · simp only [q1, go_sem, Int.reduceTMod, Int.reduceTDiv, Int.reduceDiv, Int.reduceMod, Int.reduceAdd, Int.reduceSub, Int.reduceMul, Int.reduceNeg, Int.reducePow, Int.reduceEq, ↓reduceIte, Nat.reduceEqDiff, Nat.reduceAdd, Nat.reduceMul, Nat.reduceLeDiff, Nat.reduceSub, Nat.reduceLT, Int.reduceToNat, Int.reduceLT, Int.reduceLE, reduceCtorEq]
        · simp only [q2, go_sem, Int.reduceTMod, Int.reduceTDiv, Int.reduceDiv, Int.reduceMod, Int.reduceAdd, Int.reduceSub, Int.reduceMul, Int.reduceNeg, Int.reducePow, Int.reduceEq, ↓reduceIte, Nat.reduceEqDiff, Nat.reduceAdd, Nat.reduceMul, Nat.reduceLeDiff, Nat.reduceSub, Nat.reduceLT, Int.reduceToNat, Int.reduceLT, Int.reduceLE, reduceCtorEq]
        · simp only [q3, go_sem, Int.reduceTMod, Int.reduceTDiv, Int.reduceDiv, Int.reduceMod, Int.reduceAdd, Int.reduceSub, Int.reduceMul, Int.reduceNeg, Int.reducePow, Int.reduceEq, ↓reduceIte, Nat.reduceEqDiff, Nat.reduceAdd, Nat.reduceMul, Nat.reduceLeDiff, Nat.reduceSub, Nat.reduceLT, Int.reduceToNat, Int.reduceLT, Int.reduceLE, reduceCtorEq]
        · simp only [go_sem, Int.reduceTMod, Int.reduceTDiv, Int.reduceDiv, Int.reduceMod, Int.reduceAdd, Int.reduceSub, Int.reduceMul, Int.reduceNeg, Int.reducePow, Int.reduceEq, ↓reduceIte, Nat.reduceEqDiff, Nat.reduceAdd, Nat.reduceMul, Nat.reduceLeDiff, Nat.reduceSub, Nat.reduceLT, Int.reduceToNat, Int.reduceLT, Int.reduceLE, reduceCtorEq]
          rw [← heq, hde]
          exact hr1
        · simp only [go_sem, Int.reduceTMod, Int.reduceTDiv, Int.reduceDiv, Int.reduceMod, Int.reduceAdd, Int.reduceSub, Int.reduceMul, Int.reduceNeg, Int.reducePow, Int.reduceEq, ↓reduceIte, Nat.reduceEqDiff, Nat.reduceAdd, Nat.reduceMul, Nat.reduceLeDiff, Nat.reduceSub, Nat.reduceLT, Int.reduceToNat, Int.reduceLT, Int.reduceLE, reduceCtorEq]
          exact hP1
  · exact ⟨e1, e2, e3, rfl, rfl, p, by simp only [e8]; exact hr, by simp only [e8]; exact hc, by simp only [e8]; exact hP, hl, rfl, rfl⟩

/- Plain points: neighbours differ. Conditions: those that each theorem names. -/
open Go Go.Proofs
set_option linter.unusedSimpArgs false
set_option linter.unusedVariables false

theorem pln_last {l : List Pt} : ∀ {i : Nat}, 0 < i → i ≤ l.length → 0 < (pln l i).length ∧ (pln l i)[(pln l i).length - 1]? = l[i - 1]?
  | 0, h, _ => absurd h (by decide)
  | i + 1, _, h => by
    have hp : l[i]? = some l[i] := List.getElem?_eq_getElem (by omega)
    rw [pln]
    split
    · rw [hp]
      simp
    · rename_i hn
      have h0 : i ≠ 0 := fun e => hn (Or.inl e)
      have he : l[i]? = l[i - 1]? := Classical.byContradiction fun e => hn (Or.inr e)
      have := pln_last (l := l) (i := i) (by omega) (by omega)
      rw [show i + 1 - 1 = i by omega, he]
      exact this
theorem pln_adj {l : List Pt} : ∀ {i : Nat}, i ≤ l.length → ∀ j p q, (pln l i)[j]? = some p → (pln l i)[j + 1]? = some q → p ≠ q
  | 0, _, j, p, q, h, _ => by simp [pln] at h
  | i + 1, hi, j, p, q, hp, hq => by
    have hx : l[i]? = some l[i] := List.getElem?_eq_getElem (by omega)
    rw [pln] at hp hq
    split at hp
    · rename_i hc
      rw [if_pos hc] at hq
      rw [hx] at hp hq
      simp only [Option.toList_some] at hp hq
      rcases Nat.lt_trichotomy (j + 1) (pln l i).length with h | h | h
      · rw [List.getElem?_append_left (by omega)] at hp hq
        exact pln_adj (by omega) j p q hp hq
      · rw [List.getElem?_append_left (by omega)] at hp
        rw [List.getElem?_append_right (by omega), show j + 1 - (pln l i).length = 0 by omega] at hq
        simp only [List.getElem?_cons_zero, Option.some.injEq] at hq
        by_cases h0 : i = 0
        · subst h0
          simp [pln] at h
        · have hl := (pln_last (l := l) (i := i) (by omega) (by omega)).2
          rw [show (pln l i).length - 1 = j by omega, hp] at hl
          have hne := hc.resolve_left h0
          rw [hx, ← hl] at hne
          intro e
          apply hne
          rw [e, ← hq]
      · rw [List.getElem?_append_right (by omega)] at hq
        have : ([l[i]] : List Pt)[j + 1 - (pln l i).length]? = none := List.getElem?_eq_none (by simp; omega)
        rw [this] at hq
        cases hq
    · rename_i hc
      rw [if_neg hc] at hq
      exact pln_adj (by omega) j p q hp hq
theorem dropE_take (p : List Pt) : ∃ k, k ≤ p.length ∧ dropE p = p.take k := by
  rw [dropE]
  split
  · rename_i h
    obtain ⟨k, h1, h2⟩ := dropE_take (p.take (p.length - 1))
    rw [List.length_take] at h1
    refine ⟨k, by omega, ?_⟩
    rw [h2, List.take_take, Nat.min_eq_left (by omega)]
  · exact ⟨p.length, Nat.le_refl _, List.take_length.symm⟩
termination_by p.length
decreasing_by rw [List.length_take]; omega
theorem dropE_ends (p : List Pt) (h : 1 < (dropE p).length) : (dropE p)[(dropE p).length - 1]? ≠ (dropE p)[0]? := by
  rw [dropE] at h ⊢
  split
  · rename_i hc
    rw [dif_pos hc] at h
    exact dropE_ends _ h
  · rename_i hc
    rw [dif_neg hc] at h
    exact fun e => hc ⟨h, e⟩
termination_by p.length
decreasing_by rw [List.length_take]; omega
def plainL (l : List Pt) (c : Bool) : List Pt := if c = true then dropE (pln l l.length) else pln l l.length
theorem plain_adj {l : List Pt} {c : Bool} : ∀ j p q, (plainL l c)[j]? = some p → (plainL l c)[j + 1]? = some q → p ≠ q := by
  intro j p q hp hq
  unfold plainL at hp hq
  cases c
  · simp only [Bool.false_eq_true, if_false] at hp hq
    exact pln_adj (Nat.le_refl _) j p q hp hq
  · simp only [if_true] at hp hq
    obtain ⟨k, h1, h2⟩ := dropE_take (pln l l.length)
    rw [h2, List.getElem?_take] at hp hq
    split at hp
    · split at hq
      · exact pln_adj (Nat.le_refl _) j p q hp hq
      · cases hq
    · cases hp
theorem plain_all {l : List Pt} {c : Bool} (h : l.all inP = true) : (plainL l c).all inP = true := by
  unfold plainL
  cases c
  · simp only [Bool.false_eq_true, if_false]
    exact pln_all h _
  · simp only [if_true]
    obtain ⟨k, h1, h2⟩ := dropE_take (pln l l.length)
    rw [h2]
    exact List.all_eq_true.2 (fun x hx => List.all_eq_true.1 (pln_all h l.length) x (List.mem_of_mem_take hx))
theorem plain_len (l : List Pt) (c : Bool) : (plainL l c).length ≤ l.length := by
  have := pln_len l l.length
  have := dropE_len (pln l l.length)
  unfold plainL; split <;> omega
theorem plain_ends {l : List Pt} (h : 1 < (plainL l true).length) : (plainL l true)[(plainL l true).length - 1]? ≠ (plainL l true)[0]? := by
  unfold plainL at h ⊢
  simp only [if_true] at h ⊢
  exact dropE_ends _ h

/- What a pen leaves of a subpath: the program's. Conditions: those that each theorem names. -/
open Go Go.Proofs
set_option linter.unusedSimpArgs false
set_option linter.unusedVariables false

theorem w_CompactN (m : Mem) (n : Nat) : Fn TA 35 [rnil] m n (fun r' m' n' => r' = rnil ∧ m' = m ∧ n' = n) := by
  refine Fn_ofK (fn := F35) rfl (by simp [F35]) ?_
  try simp only [r35_0, r35_1, r35_2, r35_3, r35_4, r35_6, r35_7, r35_8, r35_9, r35_11, r35_12, r35_13, r35_10, r35_14, r35_15, r35_5, r35_16, c35, F35, go_sem, Int.reduceTMod, Int.reduceTDiv, Int.reduceDiv, Int.reduceMod, Int.reduceAdd, Int.reduceSub, Int.reduceMul, Int.reduceNeg, Int.reducePow, Int.reduceEq, ↓reduceIte, Nat.reduceEqDiff, Nat.reduceAdd, Nat.reduceMul, Nat.reduceLeDiff, Nat.reduceSub, Nat.reduceLT, Int.reduceToNat, Int.reduceLT, Int.reduceLE, reduceCtorEq]
  repeat' ((first | refine FK_split (fun h_ => ?_) (fun h_ => ?_) | refine GK_split (fun h_ => ?_) (fun h_ => ?_) | refine ite_both (fun h_ => ?_) (fun h_ => ?_)) <;> (try simp only [decide_eq_true_eq, decide_eq_false_iff_not, Bool.not_true, Bool.not_false, Bool.not_eq_true', Bool.not_eq_false', Bool.not_eq_eq_eq_not, Decidable.not_not] at h_) <;> (try simp only [r35_0, r35_1, r35_2, r35_3, r35_4, r35_6, r35_7, r35_8, r35_9, r35_11, r35_12, r35_13, r35_10, r35_14, r35_15, r35_5, r35_16, c35, F35, h_, go_sem, Int.reduceTMod, Int.reduceTDiv, Int.reduceDiv, Int.reduceMod, Int.reduceAdd, Int.reduceSub, Int.reduceMul, Int.reduceNeg, Int.reducePow, Int.reduceEq, ↓reduceIte, Nat.reduceEqDiff, Nat.reduceAdd, Nat.reduceMul, Nat.reduceLeDiff, Nat.reduceSub, Nat.reduceLT, Int.reduceToNat, Int.reduceLT, Int.reduceLE, reduceCtorEq]))
theorem w_CompactB {base : Nat} {r1 : Reg} {l : List Pt} {m : Mem} {n : Nat} (hl : l.length < 4294967296)
    (h : (r1 = rnil ∧ l = []) ∨ ∃ id cap, r1 = .one (.sl id 0 l.length cap 2) ∧ base ≤ id ∧ id < n ∧ m id = some ⟨l.flatMap Pt.cs, true⟩ ∧ (cap = none ∨ l = [])) :
    Fn TA 35 [r1] m n (fun r' m' n' => PL base m' n' r' (pln l l.length) ∧ n' = n ∧ ∀ i, i < base → m' i = m i) := by
  rcases h with ⟨rfl, rfl⟩ | ⟨id, cap, rfl, h1, h2, h3, h4⟩
  · refine (w_CompactN m n).mono ?_
    rintro _ _ _ ⟨rfl, rfl, rfl⟩
    exact ⟨Or.inl ⟨rfl, rfl⟩, rfl, fun _ _ => rfl⟩
  · refine (w_Compact id cap l m n h2 h3 h4 hl).mono ?_
    rintro r' m' n' ⟨k1, k2, k3⟩
    refine ⟨?_, k2, fun i hi => k3 i (by omega)⟩
    rcases k1 with k1 | ⟨id', cap', b, e1, e2, e3, e4, e5, e6⟩
    · exact Or.inl k1
    · exact Or.inr ⟨id', cap', b, e1, by omega, e3, e4, e5, e6⟩
def sqP (c : Pt) (h : Int) : List Pt := [⟨c.x - h, c.y - h⟩, ⟨c.x + h, c.y - h⟩, ⟨c.x + h, c.y + h⟩, ⟨c.x - h, c.y + h⟩]
def sqI (h : Int) (c : Pt) : Bool × List Pt := ((sqP c h).all inP, sqP c h)
def at1 (f : Pt → List (Bool × List Pt)) (q : List Pt) (i : Nat) : List (Bool × List Pt) := match q[i]? with
  | some p => f p
  | none => []
noncomputable def at2 (f : Pt → Pt → Bool × List Pt) (q : List Pt) (i j : Nat) : List (Bool × List Pt) := match q[i]?, q[j]? with
  | some p, some r => [f p r]
  | _, _ => []
/-- All that a pen leaves of plain points. -/
noncomputable def strokeI (q : List Pt) (c : Bool) (h cap : Int) : List (Bool × List Pt) :=
  if q.length = 1 then (if cap = 1 then at1 (fun p => [discI h p]) q 0 else if cap = 2 then at1 (fun p => [sqI h p]) q 0 else [])
  else if 1 < q.length then alongI h q c ++ (if c = true then [] else if cap = 1 then at1 (fun p => [discI h p]) q 0 ++ at1 (fun p => [discI h p]) q (q.length - 1) else if cap = 2 then at2 (firstI h) q 0 1 ++ at2 (lastI h) q (q.length - 2) (q.length - 1) else [])
  else []
def StrokeQ (l : List Pt) (its : List (Bool × List Pt)) (good : Bool) (n : Nat) (r' : Reg) (m' : Mem) (n' : Nat) : Prop :=
  ∃ x k, r' = .tup [x, RI k] ∧ (good = false → x = rnil ∧ k = 30) ∧ (good = true → its.all (·.1) = false → x = rnil ∧ k = 10) ∧ (good = true → its.all (·.1) = true → k = 0 ∧ ∃ pid, n ≤ pid ∧ OPs pid pid pid m' n' x (its.map (·.2)))
theorem bars_ok {h : Int} {l : List Pt} : ∀ {k : Nat}, (barsTo h l k).all (·.1) = true → ∀ i, i < k → ∀ p q, l[i]? = some p → l[i + 1]? = some q → longQ p q = false
  | 0, _, i, hi, _, _, _, _ => absurd hi (Nat.not_lt_zero _)
  | k + 1, ha, i, hi, p, q, hp, hq => by
    rw [barsTo, List.all_append, Bool.and_eq_true] at ha
    by_cases e : i = k
    · subst e
      have h2 := ha.2
      unfold barAt at h2
      rw [hp, hq] at h2
      simp only [List.all_cons, List.all_nil, Bool.and_true, barI, Bool.and_eq_true, Bool.not_eq_true'] at h2
      exact h2.1
    · exact bars_ok ha.1 i (by omega) p q hp hq
theorem w_Stroke {c0 : Cell} {l : List Pt} {c : Bool} {h cap : Int} {m : Mem} {n : Nat} {o : Bool} (hr : RPt m n (.one c0) l) (hl : l.length < 1000000) (h0n : 0 < n) (hm0 : m 0 = some ⟨cosT, o⟩) :
    Fn TA 17 [.agg [c0, .sc (.bool c)], RI h, RI cap] m n (StrokeQ l (strokeI (plainL l c) c h cap) (decide ((1 ≤ h ∧ h ≤ 32768) ∧ 0 ≤ cap ∧ cap ≤ 2) && l.all inP) n) := by
  refine Fn_ofK (fn := F17) rfl (by simp [F17]) ?_
  have hr1 : RPt (upd m n (some ⟨[c0, .sc (.bool c)], true⟩)) (n + 1) (.one c0) l := hr.keep (by omega) (fun id hid => upd_ne _ _ (by omega))
  have vc := v_Contains 34 v_out2 (.one c0) l (frz (upd m n (some ⟨[c0, .sc (.bool c)], true⟩))) (n + 1) hr1.frz (by omega)
  by_cases g : (1 ≤ h ∧ h ≤ 32768) ∧ 0 ≤ cap ∧ cap ≤ 2
  · obtain ⟨⟨h1, h2⟩, k1, k2⟩ := g
    have gd : decide ((1 ≤ h ∧ h ≤ 32768) ∧ 0 ≤ cap ∧ cap ≤ 2) = true := decide_eq_true ⟨⟨h1, h2⟩, k1, k2⟩
    have g1 : (decide (1 ≤ h) && decide (h ≤ 32768)) = true := by simp [h1, h2]
    have g2 : (cap < 0) = False := eq_false (by omega)
    have g3 : (2 < cap) = False := eq_false (by omega)
    rw [gd, Bool.true_and]
    cases hi : l.all inP
    · rw [hi] at vc
      try simp only [r17_0, r17_1, r17_2, r17_3, r17_4, r17_5, r17_6, r17_7, r17_8, r17_9, r17_10, r17_11, r17_12, r17_13, r17_14, r17_15, r17_16, r17_17, r17_18, r17_19, r17_20, r17_21, r17_22, r17_23, r17_24, c17, F17, v_right, g1, g2, g3, vc, go_sem, Int.reduceTMod, Int.reduceTDiv, Int.reduceDiv, Int.reduceMod, Int.reduceAdd, Int.reduceSub, Int.reduceMul, Int.reduceNeg, Int.reducePow, Int.reduceEq, ↓reduceIte, Nat.reduceEqDiff, Nat.reduceAdd, Nat.reduceMul, Nat.reduceLeDiff, Nat.reduceSub, Nat.reduceLT, Int.reduceToNat, Int.reduceLT, Int.reduceLE, reduceCtorEq]
      repeat' ((first | refine FK_split (fun h_ => ?_) (fun h_ => ?_) | refine GK_split (fun h_ => ?_) (fun h_ => ?_) | refine ite_both (fun h_ => ?_) (fun h_ => ?_)) <;> (try simp only [decide_eq_true_eq, decide_eq_false_iff_not, Bool.not_true, Bool.not_false, Bool.not_eq_true', Bool.not_eq_false', Bool.not_eq_eq_eq_not, Decidable.not_not] at h_) <;> (try simp only [r17_0, r17_1, r17_2, r17_3, r17_4, r17_5, r17_6, r17_7, r17_8, r17_9, r17_10, r17_11, r17_12, r17_13, r17_14, r17_15, r17_16, r17_17, r17_18, r17_19, r17_20, r17_21, r17_22, r17_23, r17_24, c17, F17, v_right, g1, g2, g3, vc, h_, go_sem, Int.reduceTMod, Int.reduceTDiv, Int.reduceDiv, Int.reduceMod, Int.reduceAdd, Int.reduceSub, Int.reduceMul, Int.reduceNeg, Int.reducePow, Int.reduceEq, ↓reduceIte, Nat.reduceEqDiff, Nat.reduceAdd, Nat.reduceMul, Nat.reduceLeDiff, Nat.reduceSub, Nat.reduceLT, Int.reduceToNat, Int.reduceLT, Int.reduceLE, reduceCtorEq]))
      exact ⟨rnil, 30, rfl, fun _ => ⟨rfl, rfl⟩, fun h => (by cases h), fun h => (by cases h)⟩
    · rw [hi] at vc
      try simp only [r17_0, r17_1, r17_2, r17_3, r17_4, r17_5, r17_6, r17_7, r17_8, r17_9, r17_10, r17_11, r17_12, r17_13, r17_14, r17_15, r17_16, r17_17, r17_18, r17_19, r17_20, r17_21, r17_22, r17_23, r17_24, c17, F17, v_right, g1, g2, g3, vc, go_sem, Int.reduceTMod, Int.reduceTDiv, Int.reduceDiv, Int.reduceMod, Int.reduceAdd, Int.reduceSub, Int.reduceMul, Int.reduceNeg, Int.reducePow, Int.reduceEq, ↓reduceIte, Nat.reduceEqDiff, Nat.reduceAdd, Nat.reduceMul, Nat.reduceLeDiff, Nat.reduceSub, Nat.reduceLT, Int.reduceToNat, Int.reduceLT, Int.reduceLE, reduceCtorEq]
      repeat' ((first | refine FK_split (fun h_ => ?_) (fun h_ => ?_) | refine GK_split (fun h_ => ?_) (fun h_ => ?_) | refine ite_both (fun h_ => ?_) (fun h_ => ?_)) <;> (try simp only [decide_eq_true_eq, decide_eq_false_iff_not, Bool.not_true, Bool.not_false, Bool.not_eq_true', Bool.not_eq_false', Bool.not_eq_eq_eq_not, Decidable.not_not] at h_) <;> (try simp only [r17_0, r17_1, r17_2, r17_3, r17_4, r17_5, r17_6, r17_7, r17_8, r17_9, r17_10, r17_11, r17_12, r17_13, r17_14, r17_15, r17_16, r17_17, r17_18, r17_19, r17_20, r17_21, r17_22, r17_23, r17_24, c17, F17, v_right, g1, g2, g3, vc, h_, go_sem, Int.reduceTMod, Int.reduceTDiv, Int.reduceDiv, Int.reduceMod, Int.reduceAdd, Int.reduceSub, Int.reduceMul, Int.reduceNeg, Int.reducePow, Int.reduceEq, ↓reduceIte, Nat.reduceEqDiff, Nat.reduceAdd, Nat.reduceMul, Nat.reduceLeDiff, Nat.reduceSub, Nat.reduceLT, Int.reduceToNat, Int.reduceLT, Int.reduceLE, reduceCtorEq]))
      refine RK_callk ?_
      refine (w_Clone _ l _ _ hr1.frz (by omega)).mono ?_
      rintro r1 m1 n1 ⟨hc, hn1⟩
      obtain ⟨M, hM⟩ : ∃ M, M = unfrz (upd m n (some ⟨[c0, .sc (.bool c)], true⟩)) (n + 1) m1 := ⟨_, rfl⟩
      rw [← hM, show max (n + 1) n1 = n1 by omega]
      have hn : M n = some ⟨[c0, .sc (.bool c)], true⟩ := by rw [hM]; simp only [go_sem, Int.reduceTMod, Int.reduceTDiv, Int.reduceDiv, Int.reduceMod, Int.reduceAdd, Int.reduceSub, Int.reduceMul, Int.reduceNeg, Int.reducePow, Int.reduceEq, ↓reduceIte, Nat.reduceEqDiff, Nat.reduceAdd, Nat.reduceMul, Nat.reduceLeDiff, Nat.reduceSub, Nat.reduceLT, Int.reduceToNat, Int.reduceLT, Int.reduceLE, reduceCtorEq]
      try simp only [go_sem, Int.reduceTMod, Int.reduceTDiv, Int.reduceDiv, Int.reduceMod, Int.reduceAdd, Int.reduceSub, Int.reduceMul, Int.reduceNeg, Int.reducePow, Int.reduceEq, ↓reduceIte, Nat.reduceEqDiff, Nat.reduceAdd, Nat.reduceMul, Nat.reduceLeDiff, Nat.reduceSub, Nat.reduceLT, Int.reduceToNat, Int.reduceLT, Int.reduceLE, reduceCtorEq]
      repeat' ((first | refine FK_split (fun h_ => ?_) (fun h_ => ?_) | refine GK_split (fun h_ => ?_) (fun h_ => ?_) | refine ite_both (fun h_ => ?_) (fun h_ => ?_)) <;> (try simp only [decide_eq_true_eq, decide_eq_false_iff_not, Bool.not_true, Bool.not_false, Bool.not_eq_true', Bool.not_eq_false', Bool.not_eq_eq_eq_not, Decidable.not_not] at h_) <;> (try simp only [h_, go_sem, Int.reduceTMod, Int.reduceTDiv, Int.reduceDiv, Int.reduceMod, Int.reduceAdd, Int.reduceSub, Int.reduceMul, Int.reduceNeg, Int.reducePow, Int.reduceEq, ↓reduceIte, Nat.reduceEqDiff, Nat.reduceAdd, Nat.reduceMul, Nat.reduceLeDiff, Nat.reduceSub, Nat.reduceLT, Int.reduceToNat, Int.reduceLT, Int.reduceLE, reduceCtorEq]))
      refine RK_callw ?_
      have hc2 : (r1 = rnil ∧ l = []) ∨ ∃ id cap, r1 = .one (.sl id 0 l.length cap 2) ∧ n + 1 ≤ id ∧ id < n1 ∧ M id = some ⟨l.flatMap Pt.cs, true⟩ ∧ (cap = none ∨ l = []) := by
        rcases hc with hc | ⟨id, cap, e1, e2, e3, e4, e5⟩
        · exact Or.inl hc
        · exact Or.inr ⟨id, cap, e1, e2, e3, by rw [hM, unfrz_at, if_neg (by omega)]; exact e4, e5⟩
      refine (w_CompactB (base := n + 1) (by omega) hc2).mono ?_
      rintro r2 m2 n2 ⟨ho, rfl, hfr⟩
      have hn2 : m2 n = some ⟨[c0, .sc (.bool c)], true⟩ := by rw [hfr n (by omega)]; exact hn
      have hcos : m2 0 = some ⟨cosT, o⟩ := by
        rw [hfr 0 (by omega), hM, unfrz_at, if_pos (by omega), upd_ne _ _ (by omega)]; exact hm0
      have hplen := pln_len l l.length
      try simp only [r17_0, r17_1, r17_2, r17_3, r17_4, r17_5, r17_6, r17_7, r17_8, r17_9, r17_10, r17_11, r17_12, r17_13, r17_14, r17_15, r17_16, r17_17, r17_18, r17_19, r17_20, r17_21, r17_22, r17_23, r17_24, c17, F17, go_sem, Int.reduceTMod, Int.reduceTDiv, Int.reduceDiv, Int.reduceMod, Int.reduceAdd, Int.reduceSub, Int.reduceMul, Int.reduceNeg, Int.reducePow, Int.reduceEq, ↓reduceIte, Nat.reduceEqDiff, Nat.reduceAdd, Nat.reduceMul, Nat.reduceLeDiff, Nat.reduceSub, Nat.reduceLT, Int.reduceToNat, Int.reduceLT, Int.reduceLE, reduceCtorEq]
      repeat' ((first | refine FK_split (fun h_ => ?_) (fun h_ => ?_) | refine GK_split (fun h_ => ?_) (fun h_ => ?_) | refine ite_both (fun h_ => ?_) (fun h_ => ?_)) <;> (try simp only [decide_eq_true_eq, decide_eq_false_iff_not, Bool.not_true, Bool.not_false, Bool.not_eq_true', Bool.not_eq_false', Bool.not_eq_eq_eq_not, Decidable.not_not] at h_) <;> (try simp only [r17_0, r17_1, r17_2, r17_3, r17_4, r17_5, r17_6, r17_7, r17_8, r17_9, r17_10, r17_11, r17_12, r17_13, r17_14, r17_15, r17_16, r17_17, r17_18, r17_19, r17_20, r17_21, r17_22, r17_23, r17_24, c17, F17, h_, go_sem, Int.reduceTMod, Int.reduceTDiv, Int.reduceDiv, Int.reduceMod, Int.reduceAdd, Int.reduceSub, Int.reduceMul, Int.reduceNeg, Int.reducePow, Int.reduceEq, ↓reduceIte, Nat.reduceEqDiff, Nat.reduceAdd, Nat.reduceMul, Nat.reduceLeDiff, Nat.reduceSub, Nat.reduceLT, Int.reduceToNat, Int.reduceLT, Int.reduceLE, reduceCtorEq]))
      refine drop_loop (c := c) (h := h) (cp := cap) (P := fun id => id < n2) hn2 (PL.rl ho) (by omega) (fun hlt => ?_) (fun id hid => (PL.rl ho).lt hid) ?_ ?_ ?_ ?_ (fun s s1 s2 s3 sm sn sr sP => ?_)
      · rcases ho with ⟨_, e⟩ | ⟨id, cap, b, e1, e2, e3, e4, e5, e6⟩
        · rw [e] at hlt; cases hlt
        · rcases e6 with rfl | e6
          · exact ⟨id, 0, e1⟩
          · rw [e6] at hlt; cases hlt
      · simp only [go_sem, Int.reduceTMod, Int.reduceTDiv, Int.reduceDiv, Int.reduceMod, Int.reduceAdd, Int.reduceSub, Int.reduceMul, Int.reduceNeg, Int.reducePow, Int.reduceEq, ↓reduceIte, Nat.reduceEqDiff, Nat.reduceAdd, Nat.reduceMul, Nat.reduceLeDiff, Nat.reduceSub, Nat.reduceLT, Int.reduceToNat, Int.reduceLT, Int.reduceLE, reduceCtorEq]
      · simp only [go_sem, Int.reduceTMod, Int.reduceTDiv, Int.reduceDiv, Int.reduceMod, Int.reduceAdd, Int.reduceSub, Int.reduceMul, Int.reduceNeg, Int.reducePow, Int.reduceEq, ↓reduceIte, Nat.reduceEqDiff, Nat.reduceAdd, Nat.reduceMul, Nat.reduceLeDiff, Nat.reduceSub, Nat.reduceLT, Int.reduceToNat, Int.reduceLT, Int.reduceLE, reduceCtorEq]
      · simp only [go_sem, Int.reduceTMod, Int.reduceTDiv, Int.reduceDiv, Int.reduceMod, Int.reduceAdd, Int.reduceSub, Int.reduceMul, Int.reduceNeg, Int.reducePow, Int.reduceEq, ↓reduceIte, Nat.reduceEqDiff, Nat.reduceAdd, Nat.reduceMul, Nat.reduceLeDiff, Nat.reduceSub, Nat.reduceLT, Int.reduceToNat, Int.reduceLT, Int.reduceLE, reduceCtorEq]
      · simp only [go_sem, Int.reduceTMod, Int.reduceTDiv, Int.reduceDiv, Int.reduceMod, Int.reduceAdd, Int.reduceSub, Int.reduceMul, Int.reduceNeg, Int.reducePow, Int.reduceEq, ↓reduceIte, Nat.reduceEqDiff, Nat.reduceAdd, Nat.reduceMul, Nat.reduceLeDiff, Nat.reduceSub, Nat.reduceLT, Int.reduceToNat, Int.reduceLT, Int.reduceLE, reduceCtorEq]
      · obtain ⟨e, M', N'⟩ := s
        simp only at s1 s2 s3 sm sn sr sP
        subst sm
        subst sn
        rw [show (if c = true then dropE (pln l l.length) else pln l l.length) = plainL l c from rfl] at sr
        have hpl := plain_len l c
        have hal := plain_all (c := c) hi
        have hadj := @plain_adj l c
        have hends : c = true → 1 < (plainL l c).length → (plainL l c)[(plainL l c).length - 1]? ≠ (plainL l c)[0]? := fun hc hlt => by subst hc; exact plain_ends hlt
        generalize hq : plainL l c = q at *
        have hlen := sr.len
        have hn0 : n < N' := by omega
        obtain ⟨M2, hM2⟩ : ∃ M2, M2 = upd M' N' (some ⟨[I h, Cell.sc (.slice none 0 0), I 0], true⟩) := ⟨_, rfl⟩
        have hPen : Pen N' N' N' h [] (.sc (.slice none 0 0)) M2 (N' + 1) := ⟨by rw [hM2]; exact upd_same _ _ _, by omega, by omega, by omega, fun _ => ⟨[], OL.nil, fun j hj => (by cases hj), rfl, fun i l hi => (by simp at hi)⟩⟩
        have hrq : RPt M2 (N' + 1) (e 8) q := sr.keep (by omega) (fun id hid => by rw [hM2]; exact upd_ne _ _ (by omega))
        have hbel : Bel N' (e 8) := sP
        have hcos2 : M2 0 = some ⟨cosT, o⟩ := by rw [hM2, upd_ne _ _ (by omega)]; exact hcos
        have fin : ∀ its co m' n', Pen N' N' N' h its co m' n' → its.all (·.1) = true → its = strokeI q c h cap → StrokeQ l (strokeI q c h cap) true n (.tup [.one co, RI 0]) m' n' := fun its co m' n' hP ha he =>
          ⟨_, _, rfl, fun h => (by cases h), fun _ h => (by rw [← he, ha] at h; cases h), fun _ _ => ⟨rfl, N', by omega, by rw [← he]; exact hP.ho ha⟩⟩
        have finb : ∀ m' n', (strokeI q c h cap).all (·.1) = false → StrokeQ l (strokeI q c h cap) true n (.tup [rnil, RI 10]) m' n' := fun m' n' he =>
          ⟨_, _, rfl, fun h => (by cases h), fun _ _ => ⟨rfl, rfl⟩, fun _ h => (by rw [he] at h; cases h)⟩
        have w0 : IntKind.i64.wrap ((q.length : Int) - 1) = (q.length : Int) - 1 := wr_eq (by omega) (by omega)
        rcases (show q.length = 0 ∨ q.length = 1 ∨ 1 < q.length by omega) with z | z | z
        · have hs : strokeI q c h cap = [] := by unfold strokeI; rw [if_neg (by omega), if_neg (by omega)]
          have c1 : ((q.length : Int) - 1 < 0) = True := eq_true (by omega)
          try simp only [r17_0, r17_1, r17_2, r17_3, r17_4, r17_5, r17_6, r17_7, r17_8, r17_9, r17_10, r17_11, r17_12, r17_13, r17_14, r17_15, r17_16, r17_17, r17_18, r17_19, r17_20, r17_21, r17_22, r17_23, r17_24, c17, F17, s1, s2, s3, hlen, w0, c1, go_sem, Int.reduceTMod, Int.reduceTDiv, Int.reduceDiv, Int.reduceMod, Int.reduceAdd, Int.reduceSub, Int.reduceMul, Int.reduceNeg, Int.reducePow, Int.reduceEq, ↓reduceIte, Nat.reduceEqDiff, Nat.reduceAdd, Nat.reduceMul, Nat.reduceLeDiff, Nat.reduceSub, Nat.reduceLT, Int.reduceToNat, Int.reduceLT, Int.reduceLE, reduceCtorEq]
          repeat' ((first | refine FK_split (fun h_ => ?_) (fun h_ => ?_) | refine GK_split (fun h_ => ?_) (fun h_ => ?_) | refine ite_both (fun h_ => ?_) (fun h_ => ?_)) <;> (try simp only [decide_eq_true_eq, decide_eq_false_iff_not, Bool.not_true, Bool.not_false, Bool.not_eq_true', Bool.not_eq_false', Bool.not_eq_eq_eq_not, Decidable.not_not] at h_) <;> (try simp only [r17_0, r17_1, r17_2, r17_3, r17_4, r17_5, r17_6, r17_7, r17_8, r17_9, r17_10, r17_11, r17_12, r17_13, r17_14, r17_15, r17_16, r17_17, r17_18, r17_19, r17_20, r17_21, r17_22, r17_23, r17_24, c17, F17, s1, s2, s3, hlen, w0, c1, h_, go_sem, Int.reduceTMod, Int.reduceTDiv, Int.reduceDiv, Int.reduceMod, Int.reduceAdd, Int.reduceSub, Int.reduceMul, Int.reduceNeg, Int.reducePow, Int.reduceEq, ↓reduceIte, Nat.reduceEqDiff, Nat.reduceAdd, Nat.reduceMul, Nat.reduceLeDiff, Nat.reduceSub, Nat.reduceLT, Int.reduceToNat, Int.reduceLT, Int.reduceLE, reduceCtorEq]))
          rw [← hM2]
          exact fin [] _ _ _ hPen rfl hs.symm
        · have hp : q[0]? = some (q[0]'(by omega)) := List.getElem?_eq_getElem (by omega)
          obtain ⟨id, off, cap', hra, hid, hrd⟩ := hrq.at cs2 hp
          have ip := all_at hal hp
          rw [Nat.zero_mul, Nat.add_zero] at hrd
          have c1 : ((q.length : Int) - 1 < 0) = False := eq_false (by omega)
          have c2 : ((q.length : Int) - 1 = 0) = True := eq_true (by omega)
          have c3 : ((0 : Int) < (q.length : Int)) = True := eq_true (by omega)
          have c4 : (0 < (q.length : Int) - 1) = False := eq_false (by omega)
          have hs : strokeI q c h cap = (if cap = 1 then [discI h (q[0]'(by omega))] else if cap = 2 then [sqI h (q[0]'(by omega))] else []) := by
            unfold strokeI; rw [if_pos z]; unfold at1; rw [hp]
          generalize (q[0]'(by omega)) = p at *
          have hr8 : e 8 = .one (.sl id off q.length cap' 2) := hra
          have hidN : id < N' := by have := hbel id (by rw [hr8]; rfl); omega
          have n1 := na_0 hidN
          have hrd' : rd M' id off 2 = some p.cs := by rw [hM2] at hrd; rw [← hrd]; exact (rd_same (upd_ne _ _ (by omega))).symm
          rcases (show cap = 0 ∨ cap = 1 ∨ cap = 2 by omega) with rfl | rfl | rfl
          · rw [if_neg (by decide), if_neg (by decide)] at hs
            try simp only [r17_0, r17_1, r17_2, r17_3, r17_4, r17_5, r17_6, r17_7, r17_8, r17_9, r17_10, r17_11, r17_12, r17_13, r17_14, r17_15, r17_16, r17_17, r17_18, r17_19, r17_20, r17_21, r17_22, r17_23, r17_24, c17, F17, s1, s2, s3, hlen, w0, c1, c2, c4, go_sem, Int.reduceTMod, Int.reduceTDiv, Int.reduceDiv, Int.reduceMod, Int.reduceAdd, Int.reduceSub, Int.reduceMul, Int.reduceNeg, Int.reducePow, Int.reduceEq, ↓reduceIte, Nat.reduceEqDiff, Nat.reduceAdd, Nat.reduceMul, Nat.reduceLeDiff, Nat.reduceSub, Nat.reduceLT, Int.reduceToNat, Int.reduceLT, Int.reduceLE, reduceCtorEq]
            repeat' ((first | refine FK_split (fun h_ => ?_) (fun h_ => ?_) | refine GK_split (fun h_ => ?_) (fun h_ => ?_) | refine ite_both (fun h_ => ?_) (fun h_ => ?_)) <;> (try simp only [decide_eq_true_eq, decide_eq_false_iff_not, Bool.not_true, Bool.not_false, Bool.not_eq_true', Bool.not_eq_false', Bool.not_eq_eq_eq_not, Decidable.not_not] at h_) <;> (try simp only [r17_0, r17_1, r17_2, r17_3, r17_4, r17_5, r17_6, r17_7, r17_8, r17_9, r17_10, r17_11, r17_12, r17_13, r17_14, r17_15, r17_16, r17_17, r17_18, r17_19, r17_20, r17_21, r17_22, r17_23, r17_24, c17, F17, s1, s2, s3, hlen, w0, c1, c2, c4, h_, go_sem, Int.reduceTMod, Int.reduceTDiv, Int.reduceDiv, Int.reduceMod, Int.reduceAdd, Int.reduceSub, Int.reduceMul, Int.reduceNeg, Int.reducePow, Int.reduceEq, ↓reduceIte, Nat.reduceEqDiff, Nat.reduceAdd, Nat.reduceMul, Nat.reduceLeDiff, Nat.reduceSub, Nat.reduceLT, Int.reduceToNat, Int.reduceLT, Int.reduceLE, reduceCtorEq]))
            rw [← hM2]
            exact fin [] _ _ _ hPen rfl hs.symm
          · rw [if_pos rfl] at hs
            try simp only [r17_0, r17_1, r17_2, r17_3, r17_4, r17_5, r17_6, r17_7, r17_8, r17_9, r17_10, r17_11, r17_12, r17_13, r17_14, r17_15, r17_16, r17_17, r17_18, r17_19, r17_20, r17_21, r17_22, r17_23, r17_24, c17, F17, s1, s2, s3, hr8, lenO, w0, c1, c2, c3, c4, n1, hrd', Int.toNat_zero, Int.reduceToNat, Nat.zero_mul, Nat.add_zero, go_sem, Int.reduceTMod, Int.reduceTDiv, Int.reduceDiv, Int.reduceMod, Int.reduceAdd, Int.reduceSub, Int.reduceMul, Int.reduceNeg, Int.reducePow, Int.reduceEq, ↓reduceIte, Nat.reduceEqDiff, Nat.reduceAdd, Nat.reduceMul, Nat.reduceLeDiff, Nat.reduceSub, Nat.reduceLT, Int.reduceToNat, Int.reduceLT, Int.reduceLE, reduceCtorEq]
            repeat' ((first | refine FK_split (fun h_ => ?_) (fun h_ => ?_) | refine GK_split (fun h_ => ?_) (fun h_ => ?_) | refine ite_both (fun h_ => ?_) (fun h_ => ?_)) <;> (try simp only [decide_eq_true_eq, decide_eq_false_iff_not, Bool.not_true, Bool.not_false, Bool.not_eq_true', Bool.not_eq_false', Bool.not_eq_eq_eq_not, Decidable.not_not] at h_) <;> (try simp only [r17_0, r17_1, r17_2, r17_3, r17_4, r17_5, r17_6, r17_7, r17_8, r17_9, r17_10, r17_11, r17_12, r17_13, r17_14, r17_15, r17_16, r17_17, r17_18, r17_19, r17_20, r17_21, r17_22, r17_23, r17_24, c17, F17, s1, s2, s3, hr8, lenO, w0, c1, c2, c3, c4, n1, hrd', Int.toNat_zero, Int.reduceToNat, Nat.zero_mul, Nat.add_zero, h_, go_sem, Int.reduceTMod, Int.reduceTDiv, Int.reduceDiv, Int.reduceMod, Int.reduceAdd, Int.reduceSub, Int.reduceMul, Int.reduceNeg, Int.reducePow, Int.reduceEq, ↓reduceIte, Nat.reduceEqDiff, Nat.reduceAdd, Nat.reduceMul, Nat.reduceLeDiff, Nat.reduceSub, Nat.reduceLT, Int.reduceToNat, Int.reduceLT, Int.reduceLE, reduceCtorEq]))
            rw [← hM2]
            refine RK_callk ?_
            refine (w_DiscP ip h1 h2 _ _ (by omega) false (by simp only [hcos2, go_sem, Int.reduceTMod, Int.reduceTDiv, Int.reduceDiv, Int.reduceMod, Int.reduceAdd, Int.reduceSub, Int.reduceMul, Int.reduceNeg, Int.reducePow, Int.reduceEq, ↓reduceIte, Nat.reduceEqDiff, Nat.reduceAdd, Nat.reduceMul, Nat.reduceLeDiff, Nat.reduceSub, Nat.reduceLT, Int.reduceToNat, Int.reduceLT, Int.reduceLE, reduceCtorEq])).mono ?_
            rintro r1 m1 n1 ⟨x, kk, rfl, hk, hx⟩
            obtain ⟨hPa, hxa⟩ := hPen.after hx
            try simp only [r17_0, r17_1, r17_2, r17_3, r17_4, r17_5, r17_6, r17_7, r17_8, r17_9, r17_10, r17_11, r17_12, r17_13, r17_14, r17_15, r17_16, r17_17, r17_18, r17_19, r17_20, r17_21, r17_22, r17_23, r17_24, c17, F17, go_sem, Int.reduceTMod, Int.reduceTDiv, Int.reduceDiv, Int.reduceMod, Int.reduceAdd, Int.reduceSub, Int.reduceMul, Int.reduceNeg, Int.reducePow, Int.reduceEq, ↓reduceIte, Nat.reduceEqDiff, Nat.reduceAdd, Nat.reduceMul, Nat.reduceLeDiff, Nat.reduceSub, Nat.reduceLT, Int.reduceToNat, Int.reduceLT, Int.reduceLE, reduceCtorEq]
            repeat' ((first | refine FK_split (fun h_ => ?_) (fun h_ => ?_) | refine GK_split (fun h_ => ?_) (fun h_ => ?_) | refine ite_both (fun h_ => ?_) (fun h_ => ?_)) <;> (try simp only [decide_eq_true_eq, decide_eq_false_iff_not, Bool.not_true, Bool.not_false, Bool.not_eq_true', Bool.not_eq_false', Bool.not_eq_eq_eq_not, Decidable.not_not] at h_) <;> (try simp only [r17_0, r17_1, r17_2, r17_3, r17_4, r17_5, r17_6, r17_7, r17_8, r17_9, r17_10, r17_11, r17_12, r17_13, r17_14, r17_15, r17_16, r17_17, r17_18, r17_19, r17_20, r17_21, r17_22, r17_23, r17_24, c17, F17, h_, go_sem, Int.reduceTMod, Int.reduceTDiv, Int.reduceDiv, Int.reduceMod, Int.reduceAdd, Int.reduceSub, Int.reduceMul, Int.reduceNeg, Int.reducePow, Int.reduceEq, ↓reduceIte, Nat.reduceEqDiff, Nat.reduceAdd, Nat.reduceMul, Nat.reduceLeDiff, Nat.reduceSub, Nat.reduceLT, Int.reduceToNat, Int.reduceLT, Int.reduceLE, reduceCtorEq]))
            refine RK_callw ?_
            refine (w_leave hk hPa (by decide) hxa).mono ?_
            rintro r3 m3 n3 ⟨hn3, hF, co2, hP2, _, _⟩
            have hpp := hP2.hp
            have hits : ([] ++ [((disc p.x p.y h).all inP, disc p.x p.y h)] : List (Bool × List Pt)) = strokeI q c h 1 := by rw [hs]; rfl
            rw [hits] at hP2 hpp
            cases hall : (strokeI q c h 1).all (·.1)
            · rw [hall, if_neg (by simp)] at hpp
              try simp only [r17_0, r17_1, r17_2, r17_3, r17_4, r17_5, r17_6, r17_7, r17_8, r17_9, r17_10, r17_11, r17_12, r17_13, r17_14, r17_15, r17_16, r17_17, r17_18, r17_19, r17_20, r17_21, r17_22, r17_23, r17_24, c17, F17, hpp, rd_of hpp, go_sem, Int.reduceTMod, Int.reduceTDiv, Int.reduceDiv, Int.reduceMod, Int.reduceAdd, Int.reduceSub, Int.reduceMul, Int.reduceNeg, Int.reducePow, Int.reduceEq, ↓reduceIte, Nat.reduceEqDiff, Nat.reduceAdd, Nat.reduceMul, Nat.reduceLeDiff, Nat.reduceSub, Nat.reduceLT, Int.reduceToNat, Int.reduceLT, Int.reduceLE, reduceCtorEq]
              repeat' ((first | refine FK_split (fun h_ => ?_) (fun h_ => ?_) | refine GK_split (fun h_ => ?_) (fun h_ => ?_) | refine ite_both (fun h_ => ?_) (fun h_ => ?_)) <;> (try simp only [decide_eq_true_eq, decide_eq_false_iff_not, Bool.not_true, Bool.not_false, Bool.not_eq_true', Bool.not_eq_false', Bool.not_eq_eq_eq_not, Decidable.not_not] at h_) <;> (try simp only [r17_0, r17_1, r17_2, r17_3, r17_4, r17_5, r17_6, r17_7, r17_8, r17_9, r17_10, r17_11, r17_12, r17_13, r17_14, r17_15, r17_16, r17_17, r17_18, r17_19, r17_20, r17_21, r17_22, r17_23, r17_24, c17, F17, hpp, rd_of hpp, h_, go_sem, Int.reduceTMod, Int.reduceTDiv, Int.reduceDiv, Int.reduceMod, Int.reduceAdd, Int.reduceSub, Int.reduceMul, Int.reduceNeg, Int.reducePow, Int.reduceEq, ↓reduceIte, Nat.reduceEqDiff, Nat.reduceAdd, Nat.reduceMul, Nat.reduceLeDiff, Nat.reduceSub, Nat.reduceLT, Int.reduceToNat, Int.reduceLT, Int.reduceLE, reduceCtorEq]))
              exact finb _ _ hall
            · rw [hall, if_pos rfl] at hpp
              try simp only [r17_0, r17_1, r17_2, r17_3, r17_4, r17_5, r17_6, r17_7, r17_8, r17_9, r17_10, r17_11, r17_12, r17_13, r17_14, r17_15, r17_16, r17_17, r17_18, r17_19, r17_20, r17_21, r17_22, r17_23, r17_24, c17, F17, hpp, rd_of hpp, go_sem, Int.reduceTMod, Int.reduceTDiv, Int.reduceDiv, Int.reduceMod, Int.reduceAdd, Int.reduceSub, Int.reduceMul, Int.reduceNeg, Int.reducePow, Int.reduceEq, ↓reduceIte, Nat.reduceEqDiff, Nat.reduceAdd, Nat.reduceMul, Nat.reduceLeDiff, Nat.reduceSub, Nat.reduceLT, Int.reduceToNat, Int.reduceLT, Int.reduceLE, reduceCtorEq]
              repeat' ((first | refine FK_split (fun h_ => ?_) (fun h_ => ?_) | refine GK_split (fun h_ => ?_) (fun h_ => ?_) | refine ite_both (fun h_ => ?_) (fun h_ => ?_)) <;> (try simp only [decide_eq_true_eq, decide_eq_false_iff_not, Bool.not_true, Bool.not_false, Bool.not_eq_true', Bool.not_eq_false', Bool.not_eq_eq_eq_not, Decidable.not_not] at h_) <;> (try simp only [r17_0, r17_1, r17_2, r17_3, r17_4, r17_5, r17_6, r17_7, r17_8, r17_9, r17_10, r17_11, r17_12, r17_13, r17_14, r17_15, r17_16, r17_17, r17_18, r17_19, r17_20, r17_21, r17_22, r17_23, r17_24, c17, F17, hpp, rd_of hpp, h_, go_sem, Int.reduceTMod, Int.reduceTDiv, Int.reduceDiv, Int.reduceMod, Int.reduceAdd, Int.reduceSub, Int.reduceMul, Int.reduceNeg, Int.reducePow, Int.reduceEq, ↓reduceIte, Nat.reduceEqDiff, Nat.reduceAdd, Nat.reduceMul, Nat.reduceLeDiff, Nat.reduceSub, Nat.reduceLT, Int.reduceToNat, Int.reduceLT, Int.reduceLE, reduceCtorEq]))
              exact fin _ _ _ _ hP2 hall rfl
          · rw [if_neg (by decide), if_pos rfl] at hs
            obtain ⟨wp, _⟩ := in_wide ip
            have n16 : near16 ⟨h, h⟩ := ⟨⟨by simp only; omega, by simp only; omega⟩, by simp only; omega, by simp only; omega⟩
            have n16' : near16 ⟨h, -h⟩ := ⟨⟨by simp only; omega, by simp only; omega⟩, by simp only; omega, by simp only; omega⟩
            have x1 : ∀ m k, callF TA 38 [.agg [I p.x, I p.y], .agg [I h, I h]] m k = some (.agg [I (p.x - h), I (p.y - h)]) := fun m k => (v_lessQ p wp ⟨h, h⟩ n16 m k).1
            have x2 : ∀ m k, callF TA 27 [.agg [I p.x, I p.y], .agg [I h, I (-h)]] m k = some (.agg [I (p.x + h), I (p.y + -h)]) := fun m k => (v_lessQ p wp ⟨h, -h⟩ n16' m k).2
            have x3 : ∀ m k, callF TA 27 [.agg [I p.x, I p.y], .agg [I h, I h]] m k = some (.agg [I (p.x + h), I (p.y + h)]) := fun m k => (v_lessQ p wp ⟨h, h⟩ n16 m k).2
            have x4 : ∀ m k, callF TA 38 [.agg [I p.x, I p.y], .agg [I h, I (-h)]] m k = some (.agg [I (p.x - h), I (p.y - -h)]) := fun m k => (v_lessQ p wp ⟨h, -h⟩ n16' m k).1
            have w6 : IntKind.i64.wrap (0 - h) = -h := (wr_eq (by omega) (by omega)).trans (by omega)
            have y1 : p.y + -h = p.y - h := by omega
            have y2 : p.y - -h = p.y + h := by omega
            rw [y1] at x2
            rw [y2] at x4
            try simp only [r17_0, r17_1, r17_2, r17_3, r17_4, r17_5, r17_6, r17_7, r17_8, r17_9, r17_10, r17_11, r17_12, r17_13, r17_14, r17_15, r17_16, r17_17, r17_18, r17_19, r17_20, r17_21, r17_22, r17_23, r17_24, c17, F17, s1, s2, s3, hr8, lenO, w0, w6, c1, c2, c3, c4, n1, na_ne hidN, hrd', x1, x2, x3, x4, Int.toNat_zero, Int.reduceToNat, Nat.zero_mul, Nat.add_zero, go_sem, Int.reduceTMod, Int.reduceTDiv, Int.reduceDiv, Int.reduceMod, Int.reduceAdd, Int.reduceSub, Int.reduceMul, Int.reduceNeg, Int.reducePow, Int.reduceEq, ↓reduceIte, Nat.reduceEqDiff, Nat.reduceAdd, Nat.reduceMul, Nat.reduceLeDiff, Nat.reduceSub, Nat.reduceLT, Int.reduceToNat, Int.reduceLT, Int.reduceLE, reduceCtorEq]
            repeat' ((first | refine FK_split (fun h_ => ?_) (fun h_ => ?_) | refine GK_split (fun h_ => ?_) (fun h_ => ?_) | refine ite_both (fun h_ => ?_) (fun h_ => ?_)) <;> (try simp only [decide_eq_true_eq, decide_eq_false_iff_not, Bool.not_true, Bool.not_false, Bool.not_eq_true', Bool.not_eq_false', Bool.not_eq_eq_eq_not, Decidable.not_not] at h_) <;> (try simp only [r17_0, r17_1, r17_2, r17_3, r17_4, r17_5, r17_6, r17_7, r17_8, r17_9, r17_10, r17_11, r17_12, r17_13, r17_14, r17_15, r17_16, r17_17, r17_18, r17_19, r17_20, r17_21, r17_22, r17_23, r17_24, c17, F17, s1, s2, s3, hr8, lenO, w0, w6, c1, c2, c3, c4, n1, na_ne hidN, hrd', x1, x2, x3, x4, Int.toNat_zero, Int.reduceToNat, Nat.zero_mul, Nat.add_zero, h_, go_sem, Int.reduceTMod, Int.reduceTDiv, Int.reduceDiv, Int.reduceMod, Int.reduceAdd, Int.reduceSub, Int.reduceMul, Int.reduceNeg, Int.reducePow, Int.reduceEq, ↓reduceIte, Nat.reduceEqDiff, Nat.reduceAdd, Nat.reduceMul, Nat.reduceLeDiff, Nat.reduceSub, Nat.reduceLT, Int.reduceToNat, Int.reduceLT, Int.reduceLE, reduceCtorEq]))
            refine RK_callk ?_
            refine (w_roomP (c := .sl (N' + 3) 0 4 (some 4) 2) (l := sqP p h) (Or.inr ⟨N' + 3, 0, some 4, rfl, by omega, ?_⟩) (by show 4 < 4294967296; decide)).mono ?_
            · rw [rd_frz]
              show rd _ (N' + 3) 0 8 = _
              simp only [sqP, Pt.cs, List.flatMap_cons, List.flatMap_nil, go_sem, Int.reduceTMod, Int.reduceTDiv, Int.reduceDiv, Int.reduceMod, Int.reduceAdd, Int.reduceSub, Int.reduceMul, Int.reduceNeg, Int.reducePow, Int.reduceEq, ↓reduceIte, Nat.reduceEqDiff, Nat.reduceAdd, Nat.reduceMul, Nat.reduceLeDiff, Nat.reduceSub, Nat.reduceLT, Int.reduceToNat, Int.reduceLT, Int.reduceLE, reduceCtorEq]
            rintro r1 m1 n1 ⟨rfl, rfl, x, kk, rfl, hk, hx⟩
            rw [Nat.max_self]
            generalize hM1 : unfrz _ (N' + 4) _ = M1
            have hsl : RPt M1 (N' + 4) (.one (.sl (N' + 3) 0 4 (some 4) 2)) (sqP p h) := by
              refine Or.inr ⟨N' + 3, 0, some 4, rfl, by omega, ?_⟩
              rw [← hM1]
              show rd _ (N' + 3) 0 8 = _
              rw [rd_unfrz (by omega)]
              simp only [sqP, Pt.cs, List.flatMap_cons, List.flatMap_nil, go_sem, Int.reduceTMod, Int.reduceTDiv, Int.reduceDiv, Int.reduceMod, Int.reduceAdd, Int.reduceSub, Int.reduceMul, Int.reduceNeg, Int.reducePow, Int.reduceEq, ↓reduceIte, Nat.reduceEqDiff, Nat.reduceAdd, Nat.reduceMul, Nat.reduceLeDiff, Nat.reduceSub, Nat.reduceLT, Int.reduceToNat, Int.reduceLT, Int.reduceLE, reduceCtorEq]
            have hlow : ∀ id, id < N' + 1 → M1 id = M2 id := fun id hid => by
              rw [← hM1, unfrz_at, if_pos (by omega), hM2]
              have q1 : (id = N' + 1) = False := eq_false (by omega)
              have q2 : (id = N' + 2) = False := eq_false (by omega)
              have q3 : (id = N' + 3) = False := eq_false (by omega)
              simp only [q1, q2, q3, go_sem, Int.reduceTMod, Int.reduceTDiv, Int.reduceDiv, Int.reduceMod, Int.reduceAdd, Int.reduceSub, Int.reduceMul, Int.reduceNeg, Int.reducePow, Int.reduceEq, ↓reduceIte, Nat.reduceEqDiff, Nat.reduceAdd, Nat.reduceMul, Nat.reduceLeDiff, Nat.reduceSub, Nat.reduceLT, Int.reduceToNat, Int.reduceLT, Int.reduceLE, reduceCtorEq]
            have hPa := hPen.keep (n' := N' + 4) (by omega) hlow
            try simp only [r17_0, r17_1, r17_2, r17_3, r17_4, r17_5, r17_6, r17_7, r17_8, r17_9, r17_10, r17_11, r17_12, r17_13, r17_14, r17_15, r17_16, r17_17, r17_18, r17_19, r17_20, r17_21, r17_22, r17_23, r17_24, c17, F17, go_sem, Int.reduceTMod, Int.reduceTDiv, Int.reduceDiv, Int.reduceMod, Int.reduceAdd, Int.reduceSub, Int.reduceMul, Int.reduceNeg, Int.reducePow, Int.reduceEq, ↓reduceIte, Nat.reduceEqDiff, Nat.reduceAdd, Nat.reduceMul, Nat.reduceLeDiff, Nat.reduceSub, Nat.reduceLT, Int.reduceToNat, Int.reduceLT, Int.reduceLE, reduceCtorEq]
            repeat' ((first | refine FK_split (fun h_ => ?_) (fun h_ => ?_) | refine GK_split (fun h_ => ?_) (fun h_ => ?_) | refine ite_both (fun h_ => ?_) (fun h_ => ?_)) <;> (try simp only [decide_eq_true_eq, decide_eq_false_iff_not, Bool.not_true, Bool.not_false, Bool.not_eq_true', Bool.not_eq_false', Bool.not_eq_eq_eq_not, Decidable.not_not] at h_) <;> (try simp only [r17_0, r17_1, r17_2, r17_3, r17_4, r17_5, r17_6, r17_7, r17_8, r17_9, r17_10, r17_11, r17_12, r17_13, r17_14, r17_15, r17_16, r17_17, r17_18, r17_19, r17_20, r17_21, r17_22, r17_23, r17_24, c17, F17, h_, go_sem, Int.reduceTMod, Int.reduceTDiv, Int.reduceDiv, Int.reduceMod, Int.reduceAdd, Int.reduceSub, Int.reduceMul, Int.reduceNeg, Int.reducePow, Int.reduceEq, ↓reduceIte, Nat.reduceEqDiff, Nat.reduceAdd, Nat.reduceMul, Nat.reduceLeDiff, Nat.reduceSub, Nat.reduceLT, Int.reduceToNat, Int.reduceLT, Int.reduceLE, reduceCtorEq]))
            refine RK_callw ?_
            refine (w_leave (l := sqP p h) hk hPa (by decide) (fun _ ho => ?_)).mono ?_
            · rw [hx ho]
              refine ⟨hsl, fun id hid => ?_⟩
              simp only [sid, Option.some.injEq] at hid
              exact ⟨by omega, fun e => by cases e⟩
            rintro r3 m3 n3 ⟨hn3, hF, co2, hP2, _, _⟩
            have hpp := hP2.hp
            have hits : ([] ++ [((sqP p h).all inP, sqP p h)] : List (Bool × List Pt)) = strokeI q c h 2 := by rw [hs]; rfl
            rw [hits] at hP2 hpp
            cases hall : (strokeI q c h 2).all (·.1)
            · rw [hall, if_neg (by simp)] at hpp
              try simp only [r17_0, r17_1, r17_2, r17_3, r17_4, r17_5, r17_6, r17_7, r17_8, r17_9, r17_10, r17_11, r17_12, r17_13, r17_14, r17_15, r17_16, r17_17, r17_18, r17_19, r17_20, r17_21, r17_22, r17_23, r17_24, c17, F17, hpp, rd_of hpp, go_sem, Int.reduceTMod, Int.reduceTDiv, Int.reduceDiv, Int.reduceMod, Int.reduceAdd, Int.reduceSub, Int.reduceMul, Int.reduceNeg, Int.reducePow, Int.reduceEq, ↓reduceIte, Nat.reduceEqDiff, Nat.reduceAdd, Nat.reduceMul, Nat.reduceLeDiff, Nat.reduceSub, Nat.reduceLT, Int.reduceToNat, Int.reduceLT, Int.reduceLE, reduceCtorEq]
              repeat' ((first | refine FK_split (fun h_ => ?_) (fun h_ => ?_) | refine GK_split (fun h_ => ?_) (fun h_ => ?_) | refine ite_both (fun h_ => ?_) (fun h_ => ?_)) <;> (try simp only [decide_eq_true_eq, decide_eq_false_iff_not, Bool.not_true, Bool.not_false, Bool.not_eq_true', Bool.not_eq_false', Bool.not_eq_eq_eq_not, Decidable.not_not] at h_) <;> (try simp only [r17_0, r17_1, r17_2, r17_3, r17_4, r17_5, r17_6, r17_7, r17_8, r17_9, r17_10, r17_11, r17_12, r17_13, r17_14, r17_15, r17_16, r17_17, r17_18, r17_19, r17_20, r17_21, r17_22, r17_23, r17_24, c17, F17, hpp, rd_of hpp, h_, go_sem, Int.reduceTMod, Int.reduceTDiv, Int.reduceDiv, Int.reduceMod, Int.reduceAdd, Int.reduceSub, Int.reduceMul, Int.reduceNeg, Int.reducePow, Int.reduceEq, ↓reduceIte, Nat.reduceEqDiff, Nat.reduceAdd, Nat.reduceMul, Nat.reduceLeDiff, Nat.reduceSub, Nat.reduceLT, Int.reduceToNat, Int.reduceLT, Int.reduceLE, reduceCtorEq]))
              exact finb _ _ hall
            · rw [hall, if_pos rfl] at hpp
              try simp only [r17_0, r17_1, r17_2, r17_3, r17_4, r17_5, r17_6, r17_7, r17_8, r17_9, r17_10, r17_11, r17_12, r17_13, r17_14, r17_15, r17_16, r17_17, r17_18, r17_19, r17_20, r17_21, r17_22, r17_23, r17_24, c17, F17, hpp, rd_of hpp, go_sem, Int.reduceTMod, Int.reduceTDiv, Int.reduceDiv, Int.reduceMod, Int.reduceAdd, Int.reduceSub, Int.reduceMul, Int.reduceNeg, Int.reducePow, Int.reduceEq, ↓reduceIte, Nat.reduceEqDiff, Nat.reduceAdd, Nat.reduceMul, Nat.reduceLeDiff, Nat.reduceSub, Nat.reduceLT, Int.reduceToNat, Int.reduceLT, Int.reduceLE, reduceCtorEq]
              repeat' ((first | refine FK_split (fun h_ => ?_) (fun h_ => ?_) | refine GK_split (fun h_ => ?_) (fun h_ => ?_) | refine ite_both (fun h_ => ?_) (fun h_ => ?_)) <;> (try simp only [decide_eq_true_eq, decide_eq_false_iff_not, Bool.not_true, Bool.not_false, Bool.not_eq_true', Bool.not_eq_false', Bool.not_eq_eq_eq_not, Decidable.not_not] at h_) <;> (try simp only [r17_0, r17_1, r17_2, r17_3, r17_4, r17_5, r17_6, r17_7, r17_8, r17_9, r17_10, r17_11, r17_12, r17_13, r17_14, r17_15, r17_16, r17_17, r17_18, r17_19, r17_20, r17_21, r17_22, r17_23, r17_24, c17, F17, hpp, rd_of hpp, h_, go_sem, Int.reduceTMod, Int.reduceTDiv, Int.reduceDiv, Int.reduceMod, Int.reduceAdd, Int.reduceSub, Int.reduceMul, Int.reduceNeg, Int.reducePow, Int.reduceEq, ↓reduceIte, Nat.reduceEqDiff, Nat.reduceAdd, Nat.reduceMul, Nat.reduceLeDiff, Nat.reduceSub, Nat.reduceLT, Int.reduceToNat, Int.reduceLT, Int.reduceLE, reduceCtorEq]))
              exact fin _ _ _ _ hP2 hall rfl
        · have c1 : ((q.length : Int) - 1 < 0) = False := eq_false (by omega)
          have c2 : ((q.length : Int) - 1 = 0) = False := eq_false (by omega)
          have c4 : (0 < (q.length : Int) - 1) = True := eq_true (by omega)
          have hs : strokeI q c h cap = alongI h q c ++ (if c = true then [] else if cap = 1 then at1 (fun p => [discI h p]) q 0 ++ at1 (fun p => [discI h p]) q (q.length - 1) else if cap = 2 then at2 (firstI h) q 0 1 ++ at2 (lastI h) q (q.length - 2) (q.length - 1) else []) := by
            unfold strokeI; rw [if_neg (by omega), if_pos z]
          try simp only [r17_0, r17_1, r17_2, r17_3, r17_4, r17_5, r17_6, r17_7, r17_8, r17_9, r17_10, r17_11, r17_12, r17_13, r17_14, r17_15, r17_16, r17_17, r17_18, r17_19, r17_20, r17_21, r17_22, r17_23, r17_24, c17, F17, s1, s2, s3, hlen, w0, c1, c2, c4, na_0 hn0, hn2, go_sem, Int.reduceTMod, Int.reduceTDiv, Int.reduceDiv, Int.reduceMod, Int.reduceAdd, Int.reduceSub, Int.reduceMul, Int.reduceNeg, Int.reducePow, Int.reduceEq, ↓reduceIte, Nat.reduceEqDiff, Nat.reduceAdd, Nat.reduceMul, Nat.reduceLeDiff, Nat.reduceSub, Nat.reduceLT, Int.reduceToNat, Int.reduceLT, Int.reduceLE, reduceCtorEq]
          repeat' ((first | refine FK_split (fun h_ => ?_) (fun h_ => ?_) | refine GK_split (fun h_ => ?_) (fun h_ => ?_) | refine ite_both (fun h_ => ?_) (fun h_ => ?_)) <;> (try simp only [decide_eq_true_eq, decide_eq_false_iff_not, Bool.not_true, Bool.not_false, Bool.not_eq_true', Bool.not_eq_false', Bool.not_eq_eq_eq_not, Decidable.not_not] at h_) <;> (try simp only [r17_0, r17_1, r17_2, r17_3, r17_4, r17_5, r17_6, r17_7, r17_8, r17_9, r17_10, r17_11, r17_12, r17_13, r17_14, r17_15, r17_16, r17_17, r17_18, r17_19, r17_20, r17_21, r17_22, r17_23, r17_24, c17, F17, s1, s2, s3, hlen, w0, c1, c2, c4, na_0 hn0, hn2, h_, go_sem, Int.reduceTMod, Int.reduceTDiv, Int.reduceDiv, Int.reduceMod, Int.reduceAdd, Int.reduceSub, Int.reduceMul, Int.reduceNeg, Int.reducePow, Int.reduceEq, ↓reduceIte, Nat.reduceEqDiff, Nat.reduceAdd, Nat.reduceMul, Nat.reduceLeDiff, Nat.reduceSub, Nat.reduceLT, Int.reduceToNat, Int.reduceLT, Int.reduceLE, reduceCtorEq]))
          rw [← hM2]
          refine RK_callw ?_
          refine (w_along hPen hrq hbel (by omega) hcos2 h1 h2 hal hadj (fun hc => hends hc z) z (by omega) (by decide)).mono ?_
          rintro r1 m1 n1 ⟨hn1', hf1, co1, hP1⟩
          rw [List.nil_append] at hP1
          have hb1 : m1 n = some ⟨[c0, .sc (.bool c)], true⟩ := by rw [hf1 n hn0, hM2, upd_ne _ _ (by omega)]; exact hn2
          have hr3 : RPt m1 n1 (e 8) q := hrq.keep' (by omega) (fun id hid => hf1 id (hbel id hid))
          have hcos3 : m1 0 = some ⟨cosT, o⟩ := by rw [hf1 0 (by omega)]; exact hcos2
          have hall_len : (alongI h q c).length < 100000000 := by
            have := barsTo_len h q (q.length - 1)
            have := discsTo_len h q c q.length
            have := barAt_len h q (q.length - 1) 0
            unfold alongI
            simp only [List.length_append]
            split <;> (try simp only [List.length_nil]) <;> omega
          cases c
          · simp only [Bool.false_eq_true, if_false] at hs
            have hp : q[0]? = some (q[0]'(by omega)) := List.getElem?_eq_getElem (by omega)
            have hpL : q[q.length - 1]? = some (q[q.length - 1]'(by omega)) := List.getElem?_eq_getElem (by omega)
            have hp1 : q[1]? = some (q[1]'(by omega)) := List.getElem?_eq_getElem (by omega)
            have hp2 : q[q.length - 2]? = some (q[q.length - 2]'(by omega)) := List.getElem?_eq_getElem (by omega)
            obtain ⟨id, off, cap', hra, hid, hrd⟩ := hr3.at cs2 hp
            obtain ⟨id', off', cap2, hra', hid', hrdL⟩ := hr3.at cs2 hpL
            obtain ⟨id3, off3, cap3, hra3, _, hrd1⟩ := hr3.at cs2 hp1
            obtain ⟨id4, off4, cap4, hra4, _, hrd2⟩ := hr3.at cs2 hp2
            rw [hra] at hra' hra3 hra4
            simp only [Reg.one.injEq, Cell.sl.injEq, true_and] at hra' hra3 hra4
            obtain ⟨rfl, rfl, rfl, _⟩ := hra'
            obtain ⟨rfl, rfl, _⟩ := hra3
            obtain ⟨rfl, rfl, _⟩ := hra4
            rw [Nat.zero_mul, Nat.add_zero] at hrd
            have ip := all_at hal hp
            have ipL := all_at hal hpL
            have ip1 := all_at hal hp1
            have ip2 := all_at hal hp2
            have a01 := hadj 0 _ _ hp hp1
            have aLL := hadj (q.length - 2) _ _ hp2 (by rw [show q.length - 2 + 1 = q.length - 1 by omega]; exact hpL)
            have d1 : ((0 : Int) < (q.length : Int)) = True := eq_true (by omega)
            have d2 : ((1 : Int) < (q.length : Int)) = True := eq_true (by omega)
            have d3 : (0 ≤ (q.length : Int) - 1) = True := eq_true (by omega)
            have d4 : ((q.length : Int) - 1 < (q.length : Int)) = True := eq_true (by omega)
            have d5 : IntKind.i64.wrap ((q.length : Int) - 1 - 1) = (q.length : Int) - 2 := (wr_eq (by omega) (by omega)).trans (by omega)
            have d6 : (0 ≤ (q.length : Int) - 2) = True := eq_true (by omega)
            have d7 : ((q.length : Int) - 2 < (q.length : Int)) = True := eq_true (by omega)
            have d8 : ((q.length : Int) - 1).toNat = q.length - 1 := by omega
            have d9 : ((q.length : Int) - 2).toNat = q.length - 2 := by omega
            have hpp := hP1.hp
            rcases (show cap = 0 ∨ cap = 1 ∨ cap = 2 by omega) with rfl | rfl | rfl
            · rw [if_neg (by decide), if_neg (by decide), List.append_nil] at hs
              rw [← hs] at hP1 hpp
              cases hall : (strokeI q false h 0).all (·.1)
              · rw [hall, if_neg (by simp)] at hpp
                try simp only [r17_0, r17_1, r17_2, r17_3, r17_4, r17_5, r17_6, r17_7, r17_8, r17_9, r17_10, r17_11, r17_12, r17_13, r17_14, r17_15, r17_16, r17_17, r17_18, r17_19, r17_20, r17_21, r17_22, r17_23, r17_24, c17, F17, hb1, s1, s2, s3, hpp, rd_of hpp, go_sem, Int.reduceTMod, Int.reduceTDiv, Int.reduceDiv, Int.reduceMod, Int.reduceAdd, Int.reduceSub, Int.reduceMul, Int.reduceNeg, Int.reducePow, Int.reduceEq, ↓reduceIte, Nat.reduceEqDiff, Nat.reduceAdd, Nat.reduceMul, Nat.reduceLeDiff, Nat.reduceSub, Nat.reduceLT, Int.reduceToNat, Int.reduceLT, Int.reduceLE, reduceCtorEq]
                repeat' ((first | refine FK_split (fun h_ => ?_) (fun h_ => ?_) | refine GK_split (fun h_ => ?_) (fun h_ => ?_) | refine ite_both (fun h_ => ?_) (fun h_ => ?_)) <;> (try simp only [decide_eq_true_eq, decide_eq_false_iff_not, Bool.not_true, Bool.not_false, Bool.not_eq_true', Bool.not_eq_false', Bool.not_eq_eq_eq_not, Decidable.not_not] at h_) <;> (try simp only [r17_0, r17_1, r17_2, r17_3, r17_4, r17_5, r17_6, r17_7, r17_8, r17_9, r17_10, r17_11, r17_12, r17_13, r17_14, r17_15, r17_16, r17_17, r17_18, r17_19, r17_20, r17_21, r17_22, r17_23, r17_24, c17, F17, hb1, s1, s2, s3, hpp, rd_of hpp, h_, go_sem, Int.reduceTMod, Int.reduceTDiv, Int.reduceDiv, Int.reduceMod, Int.reduceAdd, Int.reduceSub, Int.reduceMul, Int.reduceNeg, Int.reducePow, Int.reduceEq, ↓reduceIte, Nat.reduceEqDiff, Nat.reduceAdd, Nat.reduceMul, Nat.reduceLeDiff, Nat.reduceSub, Nat.reduceLT, Int.reduceToNat, Int.reduceLT, Int.reduceLE, reduceCtorEq]))
                exact finb _ _ hall
              · rw [hall, if_pos rfl] at hpp
                try simp only [r17_0, r17_1, r17_2, r17_3, r17_4, r17_5, r17_6, r17_7, r17_8, r17_9, r17_10, r17_11, r17_12, r17_13, r17_14, r17_15, r17_16, r17_17, r17_18, r17_19, r17_20, r17_21, r17_22, r17_23, r17_24, c17, F17, hb1, s1, s2, s3, hpp, rd_of hpp, go_sem, Int.reduceTMod, Int.reduceTDiv, Int.reduceDiv, Int.reduceMod, Int.reduceAdd, Int.reduceSub, Int.reduceMul, Int.reduceNeg, Int.reducePow, Int.reduceEq, ↓reduceIte, Nat.reduceEqDiff, Nat.reduceAdd, Nat.reduceMul, Nat.reduceLeDiff, Nat.reduceSub, Nat.reduceLT, Int.reduceToNat, Int.reduceLT, Int.reduceLE, reduceCtorEq]
                repeat' ((first | refine FK_split (fun h_ => ?_) (fun h_ => ?_) | refine GK_split (fun h_ => ?_) (fun h_ => ?_) | refine ite_both (fun h_ => ?_) (fun h_ => ?_)) <;> (try simp only [decide_eq_true_eq, decide_eq_false_iff_not, Bool.not_true, Bool.not_false, Bool.not_eq_true', Bool.not_eq_false', Bool.not_eq_eq_eq_not, Decidable.not_not] at h_) <;> (try simp only [r17_0, r17_1, r17_2, r17_3, r17_4, r17_5, r17_6, r17_7, r17_8, r17_9, r17_10, r17_11, r17_12, r17_13, r17_14, r17_15, r17_16, r17_17, r17_18, r17_19, r17_20, r17_21, r17_22, r17_23, r17_24, c17, F17, hb1, s1, s2, s3, hpp, rd_of hpp, h_, go_sem, Int.reduceTMod, Int.reduceTDiv, Int.reduceDiv, Int.reduceMod, Int.reduceAdd, Int.reduceSub, Int.reduceMul, Int.reduceNeg, Int.reducePow, Int.reduceEq, ↓reduceIte, Nat.reduceEqDiff, Nat.reduceAdd, Nat.reduceMul, Nat.reduceLeDiff, Nat.reduceSub, Nat.reduceLT, Int.reduceToNat, Int.reduceLT, Int.reduceLE, reduceCtorEq]))
                exact fin _ _ _ _ hP1 hall rfl
            · rw [if_pos rfl] at hs
              unfold at1 at hs
              rw [hp, hpL] at hs
              have hidP : id < N' := hbel id (by rw [hra]; rfl)
              try simp only [r17_0, r17_1, r17_2, r17_3, r17_4, r17_5, r17_6, r17_7, r17_8, r17_9, r17_10, r17_11, r17_12, r17_13, r17_14, r17_15, r17_16, r17_17, r17_18, r17_19, r17_20, r17_21, r17_22, r17_23, r17_24, c17, F17, hb1, s1, s2, s3, hra, lenO, d1, hrd, Int.toNat_zero, Int.reduceToNat, Nat.zero_mul, Nat.add_zero, go_sem, Int.reduceTMod, Int.reduceTDiv, Int.reduceDiv, Int.reduceMod, Int.reduceAdd, Int.reduceSub, Int.reduceMul, Int.reduceNeg, Int.reducePow, Int.reduceEq, ↓reduceIte, Nat.reduceEqDiff, Nat.reduceAdd, Nat.reduceMul, Nat.reduceLeDiff, Nat.reduceSub, Nat.reduceLT, Int.reduceToNat, Int.reduceLT, Int.reduceLE, reduceCtorEq]
              repeat' ((first | refine FK_split (fun h_ => ?_) (fun h_ => ?_) | refine GK_split (fun h_ => ?_) (fun h_ => ?_) | refine ite_both (fun h_ => ?_) (fun h_ => ?_)) <;> (try simp only [decide_eq_true_eq, decide_eq_false_iff_not, Bool.not_true, Bool.not_false, Bool.not_eq_true', Bool.not_eq_false', Bool.not_eq_eq_eq_not, Decidable.not_not] at h_) <;> (try simp only [r17_0, r17_1, r17_2, r17_3, r17_4, r17_5, r17_6, r17_7, r17_8, r17_9, r17_10, r17_11, r17_12, r17_13, r17_14, r17_15, r17_16, r17_17, r17_18, r17_19, r17_20, r17_21, r17_22, r17_23, r17_24, c17, F17, hb1, s1, s2, s3, hra, lenO, d1, hrd, Int.toNat_zero, Int.reduceToNat, Nat.zero_mul, Nat.add_zero, h_, go_sem, Int.reduceTMod, Int.reduceTDiv, Int.reduceDiv, Int.reduceMod, Int.reduceAdd, Int.reduceSub, Int.reduceMul, Int.reduceNeg, Int.reducePow, Int.reduceEq, ↓reduceIte, Nat.reduceEqDiff, Nat.reduceAdd, Nat.reduceMul, Nat.reduceLeDiff, Nat.reduceSub, Nat.reduceLT, Int.reduceToNat, Int.reduceLT, Int.reduceLE, reduceCtorEq]))
              refine RK_callk ?_
              refine (w_DiscP ip h1 h2 _ _ (by omega) false (by simp only [hcos3, go_sem, Int.reduceTMod, Int.reduceTDiv, Int.reduceDiv, Int.reduceMod, Int.reduceAdd, Int.reduceSub, Int.reduceMul, Int.reduceNeg, Int.reducePow, Int.reduceEq, ↓reduceIte, Nat.reduceEqDiff, Nat.reduceAdd, Nat.reduceMul, Nat.reduceLeDiff, Nat.reduceSub, Nat.reduceLT, Int.reduceToNat, Int.reduceLT, Int.reduceLE, reduceCtorEq])).mono ?_
              rintro r2 m2 n2 ⟨x, kk, rfl, hk, hx⟩
              obtain ⟨hPa, hxa⟩ := hP1.after hx
              try simp only [r17_0, r17_1, r17_2, r17_3, r17_4, r17_5, r17_6, r17_7, r17_8, r17_9, r17_10, r17_11, r17_12, r17_13, r17_14, r17_15, r17_16, r17_17, r17_18, r17_19, r17_20, r17_21, r17_22, r17_23, r17_24, c17, F17, go_sem, Int.reduceTMod, Int.reduceTDiv, Int.reduceDiv, Int.reduceMod, Int.reduceAdd, Int.reduceSub, Int.reduceMul, Int.reduceNeg, Int.reducePow, Int.reduceEq, ↓reduceIte, Nat.reduceEqDiff, Nat.reduceAdd, Nat.reduceMul, Nat.reduceLeDiff, Nat.reduceSub, Nat.reduceLT, Int.reduceToNat, Int.reduceLT, Int.reduceLE, reduceCtorEq]
              repeat' ((first | refine FK_split (fun h_ => ?_) (fun h_ => ?_) | refine GK_split (fun h_ => ?_) (fun h_ => ?_) | refine ite_both (fun h_ => ?_) (fun h_ => ?_)) <;> (try simp only [decide_eq_true_eq, decide_eq_false_iff_not, Bool.not_true, Bool.not_false, Bool.not_eq_true', Bool.not_eq_false', Bool.not_eq_eq_eq_not, Decidable.not_not] at h_) <;> (try simp only [r17_0, r17_1, r17_2, r17_3, r17_4, r17_5, r17_6, r17_7, r17_8, r17_9, r17_10, r17_11, r17_12, r17_13, r17_14, r17_15, r17_16, r17_17, r17_18, r17_19, r17_20, r17_21, r17_22, r17_23, r17_24, c17, F17, h_, go_sem, Int.reduceTMod, Int.reduceTDiv, Int.reduceDiv, Int.reduceMod, Int.reduceAdd, Int.reduceSub, Int.reduceMul, Int.reduceNeg, Int.reducePow, Int.reduceEq, ↓reduceIte, Nat.reduceEqDiff, Nat.reduceAdd, Nat.reduceMul, Nat.reduceLeDiff, Nat.reduceSub, Nat.reduceLT, Int.reduceToNat, Int.reduceLT, Int.reduceLE, reduceCtorEq]))
              refine RK_callw ?_
              refine (w_leave hk hPa (by omega) hxa).mono ?_
              rintro r3 m3 n3 ⟨hn3, hF, co2, hP2, _, _⟩
              have hF2 : ∀ j, j < N' → m3 j = m1 j := fun j hj => by rw [hF.low hPa j hj, unfrz_at, if_pos (by omega)]
              have hcos4 : m3 0 = some ⟨cosT, o⟩ := by rw [hF2 0 (by omega)]; exact hcos3
              rw [← rd_same (hF2 id hidP)] at hrdL
              try simp only [r17_0, r17_1, r17_2, r17_3, r17_4, r17_5, r17_6, r17_7, r17_8, r17_9, r17_10, r17_11, r17_12, r17_13, r17_14, r17_15, r17_16, r17_17, r17_18, r17_19, r17_20, r17_21, r17_22, r17_23, r17_24, c17, F17, s1, s2, s3, hra, lenO, d3, d4, d8, hrdL, go_sem, Int.reduceTMod, Int.reduceTDiv, Int.reduceDiv, Int.reduceMod, Int.reduceAdd, Int.reduceSub, Int.reduceMul, Int.reduceNeg, Int.reducePow, Int.reduceEq, ↓reduceIte, Nat.reduceEqDiff, Nat.reduceAdd, Nat.reduceMul, Nat.reduceLeDiff, Nat.reduceSub, Nat.reduceLT, Int.reduceToNat, Int.reduceLT, Int.reduceLE, reduceCtorEq]
              repeat' ((first | refine FK_split (fun h_ => ?_) (fun h_ => ?_) | refine GK_split (fun h_ => ?_) (fun h_ => ?_) | refine ite_both (fun h_ => ?_) (fun h_ => ?_)) <;> (try simp only [decide_eq_true_eq, decide_eq_false_iff_not, Bool.not_true, Bool.not_false, Bool.not_eq_true', Bool.not_eq_false', Bool.not_eq_eq_eq_not, Decidable.not_not] at h_) <;> (try simp only [r17_0, r17_1, r17_2, r17_3, r17_4, r17_5, r17_6, r17_7, r17_8, r17_9, r17_10, r17_11, r17_12, r17_13, r17_14, r17_15, r17_16, r17_17, r17_18, r17_19, r17_20, r17_21, r17_22, r17_23, r17_24, c17, F17, s1, s2, s3, hra, lenO, d3, d4, d8, hrdL, h_, go_sem, Int.reduceTMod, Int.reduceTDiv, Int.reduceDiv, Int.reduceMod, Int.reduceAdd, Int.reduceSub, Int.reduceMul, Int.reduceNeg, Int.reducePow, Int.reduceEq, ↓reduceIte, Nat.reduceEqDiff, Nat.reduceAdd, Nat.reduceMul, Nat.reduceLeDiff, Nat.reduceSub, Nat.reduceLT, Int.reduceToNat, Int.reduceLT, Int.reduceLE, reduceCtorEq]))
              refine RK_callk ?_
              refine (w_DiscP ipL h1 h2 _ _ (by omega) false (by simp only [hcos4, go_sem, Int.reduceTMod, Int.reduceTDiv, Int.reduceDiv, Int.reduceMod, Int.reduceAdd, Int.reduceSub, Int.reduceMul, Int.reduceNeg, Int.reducePow, Int.reduceEq, ↓reduceIte, Nat.reduceEqDiff, Nat.reduceAdd, Nat.reduceMul, Nat.reduceLeDiff, Nat.reduceSub, Nat.reduceLT, Int.reduceToNat, Int.reduceLT, Int.reduceLE, reduceCtorEq])).mono ?_
              rintro r4 m4 n4 ⟨x', kk', rfl, hk', hx'⟩
              obtain ⟨hPb, hxb⟩ := hP2.after hx'
              try simp only [r17_0, r17_1, r17_2, r17_3, r17_4, r17_5, r17_6, r17_7, r17_8, r17_9, r17_10, r17_11, r17_12, r17_13, r17_14, r17_15, r17_16, r17_17, r17_18, r17_19, r17_20, r17_21, r17_22, r17_23, r17_24, c17, F17, go_sem, Int.reduceTMod, Int.reduceTDiv, Int.reduceDiv, Int.reduceMod, Int.reduceAdd, Int.reduceSub, Int.reduceMul, Int.reduceNeg, Int.reducePow, Int.reduceEq, ↓reduceIte, Nat.reduceEqDiff, Nat.reduceAdd, Nat.reduceMul, Nat.reduceLeDiff, Nat.reduceSub, Nat.reduceLT, Int.reduceToNat, Int.reduceLT, Int.reduceLE, reduceCtorEq]
              repeat' ((first | refine FK_split (fun h_ => ?_) (fun h_ => ?_) | refine GK_split (fun h_ => ?_) (fun h_ => ?_) | refine ite_both (fun h_ => ?_) (fun h_ => ?_)) <;> (try simp only [decide_eq_true_eq, decide_eq_false_iff_not, Bool.not_true, Bool.not_false, Bool.not_eq_true', Bool.not_eq_false', Bool.not_eq_eq_eq_not, Decidable.not_not] at h_) <;> (try simp only [r17_0, r17_1, r17_2, r17_3, r17_4, r17_5, r17_6, r17_7, r17_8, r17_9, r17_10, r17_11, r17_12, r17_13, r17_14, r17_15, r17_16, r17_17, r17_18, r17_19, r17_20, r17_21, r17_22, r17_23, r17_24, c17, F17, h_, go_sem, Int.reduceTMod, Int.reduceTDiv, Int.reduceDiv, Int.reduceMod, Int.reduceAdd, Int.reduceSub, Int.reduceMul, Int.reduceNeg, Int.reducePow, Int.reduceEq, ↓reduceIte, Nat.reduceEqDiff, Nat.reduceAdd, Nat.reduceMul, Nat.reduceLeDiff, Nat.reduceSub, Nat.reduceLT, Int.reduceToNat, Int.reduceLT, Int.reduceLE, reduceCtorEq]))
              refine RK_callw ?_
              refine (w_leave hk' hPb (by rw [List.length_append, List.length_singleton]; omega) hxb).mono ?_
              rintro r5 m5 n5 ⟨hn5, hF5, co5, hP5, _, _⟩
              have hpp := hP5.hp
              rw [List.append_assoc] at hP5 hpp
              rw [show [((disc _ _ h).all inP, disc _ _ h)] ++ [((disc _ _ h).all inP, disc _ _ h)] = [discI h (q[0]'(by omega))] ++ [discI h (q[q.length - 1]'(by omega))] from rfl, ← hs] at hP5 hpp
              cases hall : (strokeI q false h 1).all (·.1)
              · rw [hall, if_neg (by simp)] at hpp
                try simp only [r17_0, r17_1, r17_2, r17_3, r17_4, r17_5, r17_6, r17_7, r17_8, r17_9, r17_10, r17_11, r17_12, r17_13, r17_14, r17_15, r17_16, r17_17, r17_18, r17_19, r17_20, r17_21, r17_22, r17_23, r17_24, c17, F17, hpp, rd_of hpp, go_sem, Int.reduceTMod, Int.reduceTDiv, Int.reduceDiv, Int.reduceMod, Int.reduceAdd, Int.reduceSub, Int.reduceMul, Int.reduceNeg, Int.reducePow, Int.reduceEq, ↓reduceIte, Nat.reduceEqDiff, Nat.reduceAdd, Nat.reduceMul, Nat.reduceLeDiff, Nat.reduceSub, Nat.reduceLT, Int.reduceToNat, Int.reduceLT, Int.reduceLE, reduceCtorEq]
                repeat' ((first | refine FK_split (fun h_ => ?_) (fun h_ => ?_) | refine GK_split (fun h_ => ?_) (fun h_ => ?_) | refine ite_both (fun h_ => ?_) (fun h_ => ?_)) <;> (try simp only [decide_eq_true_eq, decide_eq_false_iff_not, Bool.not_true, Bool.not_false, Bool.not_eq_true', Bool.not_eq_false', Bool.not_eq_eq_eq_not, Decidable.not_not] at h_) <;> (try simp only [r17_0, r17_1, r17_2, r17_3, r17_4, r17_5, r17_6, r17_7, r17_8, r17_9, r17_10, r17_11, r17_12, r17_13, r17_14, r17_15, r17_16, r17_17, r17_18, r17_19, r17_20, r17_21, r17_22, r17_23, r17_24, c17, F17, hpp, rd_of hpp, h_, go_sem, Int.reduceTMod, Int.reduceTDiv, Int.reduceDiv, Int.reduceMod, Int.reduceAdd, Int.reduceSub, Int.reduceMul, Int.reduceNeg, Int.reducePow, Int.reduceEq, ↓reduceIte, Nat.reduceEqDiff, Nat.reduceAdd, Nat.reduceMul, Nat.reduceLeDiff, Nat.reduceSub, Nat.reduceLT, Int.reduceToNat, Int.reduceLT, Int.reduceLE, reduceCtorEq]))
                exact finb _ _ hall
              · rw [hall, if_pos rfl] at hpp
                try simp only [r17_0, r17_1, r17_2, r17_3, r17_4, r17_5, r17_6, r17_7, r17_8, r17_9, r17_10, r17_11, r17_12, r17_13, r17_14, r17_15, r17_16, r17_17, r17_18, r17_19, r17_20, r17_21, r17_22, r17_23, r17_24, c17, F17, hpp, rd_of hpp, go_sem, Int.reduceTMod, Int.reduceTDiv, Int.reduceDiv, Int.reduceMod, Int.reduceAdd, Int.reduceSub, Int.reduceMul, Int.reduceNeg, Int.reducePow, Int.reduceEq, ↓reduceIte, Nat.reduceEqDiff, Nat.reduceAdd, Nat.reduceMul, Nat.reduceLeDiff, Nat.reduceSub, Nat.reduceLT, Int.reduceToNat, Int.reduceLT, Int.reduceLE, reduceCtorEq]
                repeat' ((first | refine FK_split (fun h_ => ?_) (fun h_ => ?_) | refine GK_split (fun h_ => ?_) (fun h_ => ?_) | refine ite_both (fun h_ => ?_) (fun h_ => ?_)) <;> (try simp only [decide_eq_true_eq, decide_eq_false_iff_not, Bool.not_true, Bool.not_false, Bool.not_eq_true', Bool.not_eq_false', Bool.not_eq_eq_eq_not, Decidable.not_not] at h_) <;> (try simp only [r17_0, r17_1, r17_2, r17_3, r17_4, r17_5, r17_6, r17_7, r17_8, r17_9, r17_10, r17_11, r17_12, r17_13, r17_14, r17_15, r17_16, r17_17, r17_18, r17_19, r17_20, r17_21, r17_22, r17_23, r17_24, c17, F17, hpp, rd_of hpp, h_, go_sem, Int.reduceTMod, Int.reduceTDiv, Int.reduceDiv, Int.reduceMod, Int.reduceAdd, Int.reduceSub, Int.reduceMul, Int.reduceNeg, Int.reducePow, Int.reduceEq, ↓reduceIte, Nat.reduceEqDiff, Nat.reduceAdd, Nat.reduceMul, Nat.reduceLeDiff, Nat.reduceSub, Nat.reduceLT, Int.reduceToNat, Int.reduceLT, Int.reduceLE, reduceCtorEq]))
                exact fin _ _ _ _ hP5 hall rfl
            · rw [if_neg (by decide), if_pos rfl] at hs
              unfold at2 at hs
              rw [hp, hp1, hp2, hpL] at hs
              cases hall1 : (alongI h q false).all (·.1)
              · have hallS : (strokeI q false h 2).all (·.1) = false := by rw [hs, List.all_append, hall1, Bool.false_and]
                rw [hall1, if_neg (by simp)] at hpp
                try simp only [r17_0, r17_1, r17_2, r17_3, r17_4, r17_5, r17_6, r17_7, r17_8, r17_9, r17_10, r17_11, r17_12, r17_13, r17_14, r17_15, r17_16, r17_17, r17_18, r17_19, r17_20, r17_21, r17_22, r17_23, r17_24, c17, F17, hb1, s1, s2, s3, hpp, rd_of hpp, go_sem, Int.reduceTMod, Int.reduceTDiv, Int.reduceDiv, Int.reduceMod, Int.reduceAdd, Int.reduceSub, Int.reduceMul, Int.reduceNeg, Int.reducePow, Int.reduceEq, ↓reduceIte, Nat.reduceEqDiff, Nat.reduceAdd, Nat.reduceMul, Nat.reduceLeDiff, Nat.reduceSub, Nat.reduceLT, Int.reduceToNat, Int.reduceLT, Int.reduceLE, reduceCtorEq]
                repeat' ((first | refine FK_split (fun h_ => ?_) (fun h_ => ?_) | refine GK_split (fun h_ => ?_) (fun h_ => ?_) | refine ite_both (fun h_ => ?_) (fun h_ => ?_)) <;> (try simp only [decide_eq_true_eq, decide_eq_false_iff_not, Bool.not_true, Bool.not_false, Bool.not_eq_true', Bool.not_eq_false', Bool.not_eq_eq_eq_not, Decidable.not_not] at h_) <;> (try simp only [r17_0, r17_1, r17_2, r17_3, r17_4, r17_5, r17_6, r17_7, r17_8, r17_9, r17_10, r17_11, r17_12, r17_13, r17_14, r17_15, r17_16, r17_17, r17_18, r17_19, r17_20, r17_21, r17_22, r17_23, r17_24, c17, F17, hb1, s1, s2, s3, hpp, rd_of hpp, h_, go_sem, Int.reduceTMod, Int.reduceTDiv, Int.reduceDiv, Int.reduceMod, Int.reduceAdd, Int.reduceSub, Int.reduceMul, Int.reduceNeg, Int.reducePow, Int.reduceEq, ↓reduceIte, Nat.reduceEqDiff, Nat.reduceAdd, Nat.reduceMul, Nat.reduceLeDiff, Nat.reduceSub, Nat.reduceLT, Int.reduceToNat, Int.reduceLT, Int.reduceLE, reduceCtorEq]))
                exact finb _ _ hallS
              · rw [hall1, if_pos rfl] at hpp
                have hlg : longQ (q[0]'(by omega)) (q[1]'(by omega)) = false ∧ longQ (q[q.length - 2]'(by omega)) (q[q.length - 1]'(by omega)) = false := by
                  have hb := hall1
                  unfold alongI at hb
                  rw [List.all_append, List.all_append, Bool.and_eq_true, Bool.and_eq_true] at hb
                  exact ⟨bars_ok hb.1.1 0 (by omega) _ _ hp hp1, bars_ok hb.1.1 (q.length - 2) (by omega) _ _ hp2 (by rw [show q.length - 2 + 1 = q.length - 1 by omega]; exact hpL)⟩
                try simp only [r17_0, r17_1, r17_2, r17_3, r17_4, r17_5, r17_6, r17_7, r17_8, r17_9, r17_10, r17_11, r17_12, r17_13, r17_14, r17_15, r17_16, r17_17, r17_18, r17_19, r17_20, r17_21, r17_22, r17_23, r17_24, c17, F17, hb1, s1, s2, s3, hpp, rd_of hpp, hra, lenO, d1, d2, d3, d4, d5, d6, d7, d8, d9, hrd, hrd1, hrd2, hrdL, Int.toNat_zero, Int.reduceToNat, Nat.zero_mul, Nat.add_zero, Nat.one_mul, go_sem, Int.reduceTMod, Int.reduceTDiv, Int.reduceDiv, Int.reduceMod, Int.reduceAdd, Int.reduceSub, Int.reduceMul, Int.reduceNeg, Int.reducePow, Int.reduceEq, ↓reduceIte, Nat.reduceEqDiff, Nat.reduceAdd, Nat.reduceMul, Nat.reduceLeDiff, Nat.reduceSub, Nat.reduceLT, Int.reduceToNat, Int.reduceLT, Int.reduceLE, reduceCtorEq]
                repeat' ((first | refine FK_split (fun h_ => ?_) (fun h_ => ?_) | refine GK_split (fun h_ => ?_) (fun h_ => ?_) | refine ite_both (fun h_ => ?_) (fun h_ => ?_)) <;> (try simp only [decide_eq_true_eq, decide_eq_false_iff_not, Bool.not_true, Bool.not_false, Bool.not_eq_true', Bool.not_eq_false', Bool.not_eq_eq_eq_not, Decidable.not_not] at h_) <;> (try simp only [r17_0, r17_1, r17_2, r17_3, r17_4, r17_5, r17_6, r17_7, r17_8, r17_9, r17_10, r17_11, r17_12, r17_13, r17_14, r17_15, r17_16, r17_17, r17_18, r17_19, r17_20, r17_21, r17_22, r17_23, r17_24, c17, F17, hb1, s1, s2, s3, hpp, rd_of hpp, hra, lenO, d1, d2, d3, d4, d5, d6, d7, d8, d9, hrd, hrd1, hrd2, hrdL, Int.toNat_zero, Int.reduceToNat, Nat.zero_mul, Nat.add_zero, Nat.one_mul, h_, go_sem, Int.reduceTMod, Int.reduceTDiv, Int.reduceDiv, Int.reduceMod, Int.reduceAdd, Int.reduceSub, Int.reduceMul, Int.reduceNeg, Int.reducePow, Int.reduceEq, ↓reduceIte, Nat.reduceEqDiff, Nat.reduceAdd, Nat.reduceMul, Nat.reduceLeDiff, Nat.reduceSub, Nat.reduceLT, Int.reduceToNat, Int.reduceLT, Int.reduceLE, reduceCtorEq]))
                refine RK_callw ?_
                refine (w_caps hP1 h1 h2 ip ip1 ip2 ipL a01 aLL hlg.1 hlg.2 hall_len hall1).mono ?_
                rintro r5 m5 n5 ⟨hn5, hF5, co5, hP5⟩
                have hP6 := hP5.avoid (n' := n5) (u' := N') (v' := N') (m' := m5) (Nat.le_refl _) (Or.inr (Nat.le_refl _)) (Or.inr (Nat.le_refl _)) (by omega) (by omega) (fun _ _ => rfl)
                have hpp := hP6.hp
                rw [List.append_assoc, ← hs] at hP6 hpp
                cases hall : (strokeI q false h 2).all (·.1)
                · rw [hall, if_neg (by simp)] at hpp
                  try simp only [r17_0, r17_1, r17_2, r17_3, r17_4, r17_5, r17_6, r17_7, r17_8, r17_9, r17_10, r17_11, r17_12, r17_13, r17_14, r17_15, r17_16, r17_17, r17_18, r17_19, r17_20, r17_21, r17_22, r17_23, r17_24, c17, F17, hpp, rd_of hpp, go_sem, Int.reduceTMod, Int.reduceTDiv, Int.reduceDiv, Int.reduceMod, Int.reduceAdd, Int.reduceSub, Int.reduceMul, Int.reduceNeg, Int.reducePow, Int.reduceEq, ↓reduceIte, Nat.reduceEqDiff, Nat.reduceAdd, Nat.reduceMul, Nat.reduceLeDiff, Nat.reduceSub, Nat.reduceLT, Int.reduceToNat, Int.reduceLT, Int.reduceLE, reduceCtorEq]
                  repeat' ((first | refine FK_split (fun h_ => ?_) (fun h_ => ?_) | refine GK_split (fun h_ => ?_) (fun h_ => ?_) | refine ite_both (fun h_ => ?_) (fun h_ => ?_)) <;> (try simp only [decide_eq_true_eq, decide_eq_false_iff_not, Bool.not_true, Bool.not_false, Bool.not_eq_true', Bool.not_eq_false', Bool.not_eq_eq_eq_not, Decidable.not_not] at h_) <;> (try simp only [r17_0, r17_1, r17_2, r17_3, r17_4, r17_5, r17_6, r17_7, r17_8, r17_9, r17_10, r17_11, r17_12, r17_13, r17_14, r17_15, r17_16, r17_17, r17_18, r17_19, r17_20, r17_21, r17_22, r17_23, r17_24, c17, F17, hpp, rd_of hpp, h_, go_sem, Int.reduceTMod, Int.reduceTDiv, Int.reduceDiv, Int.reduceMod, Int.reduceAdd, Int.reduceSub, Int.reduceMul, Int.reduceNeg, Int.reducePow, Int.reduceEq, ↓reduceIte, Nat.reduceEqDiff, Nat.reduceAdd, Nat.reduceMul, Nat.reduceLeDiff, Nat.reduceSub, Nat.reduceLT, Int.reduceToNat, Int.reduceLT, Int.reduceLE, reduceCtorEq]))
                  exact finb _ _ hall
                · rw [hall, if_pos rfl] at hpp
                  try simp only [r17_0, r17_1, r17_2, r17_3, r17_4, r17_5, r17_6, r17_7, r17_8, r17_9, r17_10, r17_11, r17_12, r17_13, r17_14, r17_15, r17_16, r17_17, r17_18, r17_19, r17_20, r17_21, r17_22, r17_23, r17_24, c17, F17, hpp, rd_of hpp, go_sem, Int.reduceTMod, Int.reduceTDiv, Int.reduceDiv, Int.reduceMod, Int.reduceAdd, Int.reduceSub, Int.reduceMul, Int.reduceNeg, Int.reducePow, Int.reduceEq, ↓reduceIte, Nat.reduceEqDiff, Nat.reduceAdd, Nat.reduceMul, Nat.reduceLeDiff, Nat.reduceSub, Nat.reduceLT, Int.reduceToNat, Int.reduceLT, Int.reduceLE, reduceCtorEq]
                  repeat' ((first | refine FK_split (fun h_ => ?_) (fun h_ => ?_) | refine GK_split (fun h_ => ?_) (fun h_ => ?_) | refine ite_both (fun h_ => ?_) (fun h_ => ?_)) <;> (try simp only [decide_eq_true_eq, decide_eq_false_iff_not, Bool.not_true, Bool.not_false, Bool.not_eq_true', Bool.not_eq_false', Bool.not_eq_eq_eq_not, Decidable.not_not] at h_) <;> (try simp only [r17_0, r17_1, r17_2, r17_3, r17_4, r17_5, r17_6, r17_7, r17_8, r17_9, r17_10, r17_11, r17_12, r17_13, r17_14, r17_15, r17_16, r17_17, r17_18, r17_19, r17_20, r17_21, r17_22, r17_23, r17_24, c17, F17, hpp, rd_of hpp, h_, go_sem, Int.reduceTMod, Int.reduceTDiv, Int.reduceDiv, Int.reduceMod, Int.reduceAdd, Int.reduceSub, Int.reduceMul, Int.reduceNeg, Int.reducePow, Int.reduceEq, ↓reduceIte, Nat.reduceEqDiff, Nat.reduceAdd, Nat.reduceMul, Nat.reduceLeDiff, Nat.reduceSub, Nat.reduceLT, Int.reduceToNat, Int.reduceLT, Int.reduceLE, reduceCtorEq]))
                  exact fin _ _ _ _ hP6 hall rfl
          · simp only [if_true, List.append_nil] at hs
            rw [← hs] at hP1
            have hpp := hP1.hp
            cases hall : (strokeI q true h cap).all (·.1)
            · rw [hall, if_neg (by simp)] at hpp
              try simp only [r17_0, r17_1, r17_2, r17_3, r17_4, r17_5, r17_6, r17_7, r17_8, r17_9, r17_10, r17_11, r17_12, r17_13, r17_14, r17_15, r17_16, r17_17, r17_18, r17_19, r17_20, r17_21, r17_22, r17_23, r17_24, c17, F17, hb1, s1, s2, s3, hpp, rd_of hpp, go_sem, Int.reduceTMod, Int.reduceTDiv, Int.reduceDiv, Int.reduceMod, Int.reduceAdd, Int.reduceSub, Int.reduceMul, Int.reduceNeg, Int.reducePow, Int.reduceEq, ↓reduceIte, Nat.reduceEqDiff, Nat.reduceAdd, Nat.reduceMul, Nat.reduceLeDiff, Nat.reduceSub, Nat.reduceLT, Int.reduceToNat, Int.reduceLT, Int.reduceLE, reduceCtorEq]
              repeat' ((first | refine FK_split (fun h_ => ?_) (fun h_ => ?_) | refine GK_split (fun h_ => ?_) (fun h_ => ?_) | refine ite_both (fun h_ => ?_) (fun h_ => ?_)) <;> (try simp only [decide_eq_true_eq, decide_eq_false_iff_not, Bool.not_true, Bool.not_false, Bool.not_eq_true', Bool.not_eq_false', Bool.not_eq_eq_eq_not, Decidable.not_not] at h_) <;> (try simp only [r17_0, r17_1, r17_2, r17_3, r17_4, r17_5, r17_6, r17_7, r17_8, r17_9, r17_10, r17_11, r17_12, r17_13, r17_14, r17_15, r17_16, r17_17, r17_18, r17_19, r17_20, r17_21, r17_22, r17_23, r17_24, c17, F17, hb1, s1, s2, s3, hpp, rd_of hpp, h_, go_sem, Int.reduceTMod, Int.reduceTDiv, Int.reduceDiv, Int.reduceMod, Int.reduceAdd, Int.reduceSub, Int.reduceMul, Int.reduceNeg, Int.reducePow, Int.reduceEq, ↓reduceIte, Nat.reduceEqDiff, Nat.reduceAdd, Nat.reduceMul, Nat.reduceLeDiff, Nat.reduceSub, Nat.reduceLT, Int.reduceToNat, Int.reduceLT, Int.reduceLE, reduceCtorEq]))
              exact finb _ _ hall
            · rw [hall, if_pos rfl] at hpp
              try simp only [r17_0, r17_1, r17_2, r17_3, r17_4, r17_5, r17_6, r17_7, r17_8, r17_9, r17_10, r17_11, r17_12, r17_13, r17_14, r17_15, r17_16, r17_17, r17_18, r17_19, r17_20, r17_21, r17_22, r17_23, r17_24, c17, F17, hb1, s1, s2, s3, hpp, rd_of hpp, go_sem, Int.reduceTMod, Int.reduceTDiv, Int.reduceDiv, Int.reduceMod, Int.reduceAdd, Int.reduceSub, Int.reduceMul, Int.reduceNeg, Int.reducePow, Int.reduceEq, ↓reduceIte, Nat.reduceEqDiff, Nat.reduceAdd, Nat.reduceMul, Nat.reduceLeDiff, Nat.reduceSub, Nat.reduceLT, Int.reduceToNat, Int.reduceLT, Int.reduceLE, reduceCtorEq]
              repeat' ((first | refine FK_split (fun h_ => ?_) (fun h_ => ?_) | refine GK_split (fun h_ => ?_) (fun h_ => ?_) | refine ite_both (fun h_ => ?_) (fun h_ => ?_)) <;> (try simp only [decide_eq_true_eq, decide_eq_false_iff_not, Bool.not_true, Bool.not_false, Bool.not_eq_true', Bool.not_eq_false', Bool.not_eq_eq_eq_not, Decidable.not_not] at h_) <;> (try simp only [r17_0, r17_1, r17_2, r17_3, r17_4, r17_5, r17_6, r17_7, r17_8, r17_9, r17_10, r17_11, r17_12, r17_13, r17_14, r17_15, r17_16, r17_17, r17_18, r17_19, r17_20, r17_21, r17_22, r17_23, r17_24, c17, F17, hb1, s1, s2, s3, hpp, rd_of hpp, h_, go_sem, Int.reduceTMod, Int.reduceTDiv, Int.reduceDiv, Int.reduceMod, Int.reduceAdd, Int.reduceSub, Int.reduceMul, Int.reduceNeg, Int.reducePow, Int.reduceEq, ↓reduceIte, Nat.reduceEqDiff, Nat.reduceAdd, Nat.reduceMul, Nat.reduceLeDiff, Nat.reduceSub, Nat.reduceLT, Int.reduceToNat, Int.reduceLT, Int.reduceLE, reduceCtorEq]))
              exact fin _ _ _ _ hP1 hall rfl
  · have gd : decide ((1 ≤ h ∧ h ≤ 32768) ∧ 0 ≤ cap ∧ cap ≤ 2) = false := decide_eq_false g
    rw [gd, Bool.false_and]
    have fin : ∀ m' n', StrokeQ l (strokeI (plainL l c) c h cap) false n (.tup [rnil, RI 30]) m' n' := fun m' n' => ⟨rnil, 30, rfl, fun _ => ⟨rfl, rfl⟩, fun h => (by cases h), fun h => (by cases h)⟩
    by_cases g1 : 1 ≤ h ∧ h ≤ 32768
    · have g1' : (decide (1 ≤ h) && decide (h ≤ 32768)) = true := by simp [g1.1, g1.2]
      by_cases g2 : cap < 0
      · skip
        try simp only [r17_0, r17_1, r17_2, r17_3, r17_4, r17_5, r17_6, r17_7, r17_8, r17_9, r17_10, r17_11, r17_12, r17_13, r17_14, r17_15, r17_16, r17_17, r17_18, r17_19, r17_20, r17_21, r17_22, r17_23, r17_24, c17, F17, v_right, g1', g2, go_sem, Int.reduceTMod, Int.reduceTDiv, Int.reduceDiv, Int.reduceMod, Int.reduceAdd, Int.reduceSub, Int.reduceMul, Int.reduceNeg, Int.reducePow, Int.reduceEq, ↓reduceIte, Nat.reduceEqDiff, Nat.reduceAdd, Nat.reduceMul, Nat.reduceLeDiff, Nat.reduceSub, Nat.reduceLT, Int.reduceToNat, Int.reduceLT, Int.reduceLE, reduceCtorEq]
        repeat' ((first | refine FK_split (fun h_ => ?_) (fun h_ => ?_) | refine GK_split (fun h_ => ?_) (fun h_ => ?_) | refine ite_both (fun h_ => ?_) (fun h_ => ?_)) <;> (try simp only [decide_eq_true_eq, decide_eq_false_iff_not, Bool.not_true, Bool.not_false, Bool.not_eq_true', Bool.not_eq_false', Bool.not_eq_eq_eq_not, Decidable.not_not] at h_) <;> (try simp only [r17_0, r17_1, r17_2, r17_3, r17_4, r17_5, r17_6, r17_7, r17_8, r17_9, r17_10, r17_11, r17_12, r17_13, r17_14, r17_15, r17_16, r17_17, r17_18, r17_19, r17_20, r17_21, r17_22, r17_23, r17_24, c17, F17, v_right, g1', g2, h_, go_sem, Int.reduceTMod, Int.reduceTDiv, Int.reduceDiv, Int.reduceMod, Int.reduceAdd, Int.reduceSub, Int.reduceMul, Int.reduceNeg, Int.reducePow, Int.reduceEq, ↓reduceIte, Nat.reduceEqDiff, Nat.reduceAdd, Nat.reduceMul, Nat.reduceLeDiff, Nat.reduceSub, Nat.reduceLT, Int.reduceToNat, Int.reduceLT, Int.reduceLE, reduceCtorEq]))
        exact fin _ _
      · have g3 : (2 < cap) = True := eq_true (by omega)
        try simp only [r17_0, r17_1, r17_2, r17_3, r17_4, r17_5, r17_6, r17_7, r17_8, r17_9, r17_10, r17_11, r17_12, r17_13, r17_14, r17_15, r17_16, r17_17, r17_18, r17_19, r17_20, r17_21, r17_22, r17_23, r17_24, c17, F17, v_right, g1', g2, g3, go_sem, Int.reduceTMod, Int.reduceTDiv, Int.reduceDiv, Int.reduceMod, Int.reduceAdd, Int.reduceSub, Int.reduceMul, Int.reduceNeg, Int.reducePow, Int.reduceEq, ↓reduceIte, Nat.reduceEqDiff, Nat.reduceAdd, Nat.reduceMul, Nat.reduceLeDiff, Nat.reduceSub, Nat.reduceLT, Int.reduceToNat, Int.reduceLT, Int.reduceLE, reduceCtorEq]
        repeat' ((first | refine FK_split (fun h_ => ?_) (fun h_ => ?_) | refine GK_split (fun h_ => ?_) (fun h_ => ?_) | refine ite_both (fun h_ => ?_) (fun h_ => ?_)) <;> (try simp only [decide_eq_true_eq, decide_eq_false_iff_not, Bool.not_true, Bool.not_false, Bool.not_eq_true', Bool.not_eq_false', Bool.not_eq_eq_eq_not, Decidable.not_not] at h_) <;> (try simp only [r17_0, r17_1, r17_2, r17_3, r17_4, r17_5, r17_6, r17_7, r17_8, r17_9, r17_10, r17_11, r17_12, r17_13, r17_14, r17_15, r17_16, r17_17, r17_18, r17_19, r17_20, r17_21, r17_22, r17_23, r17_24, c17, F17, v_right, g1', g2, g3, h_, go_sem, Int.reduceTMod, Int.reduceTDiv, Int.reduceDiv, Int.reduceMod, Int.reduceAdd, Int.reduceSub, Int.reduceMul, Int.reduceNeg, Int.reducePow, Int.reduceEq, ↓reduceIte, Nat.reduceEqDiff, Nat.reduceAdd, Nat.reduceMul, Nat.reduceLeDiff, Nat.reduceSub, Nat.reduceLT, Int.reduceToNat, Int.reduceLT, Int.reduceLE, reduceCtorEq]))
        exact fin _ _
    · have g1' : (decide (1 ≤ h) && decide (h ≤ 32768)) = false := by
        cases e : (decide (1 ≤ h) && decide (h ≤ 32768))
        · rfl
        · rw [Bool.and_eq_true, decide_eq_true_eq, decide_eq_true_eq] at e; exact absurd e g1
      try simp only [r17_0, r17_1, r17_2, r17_3, r17_4, r17_5, r17_6, r17_7, r17_8, r17_9, r17_10, r17_11, r17_12, r17_13, r17_14, r17_15, r17_16, r17_17, r17_18, r17_19, r17_20, r17_21, r17_22, r17_23, r17_24, c17, F17, v_right, g1', go_sem, Int.reduceTMod, Int.reduceTDiv, Int.reduceDiv, Int.reduceMod, Int.reduceAdd, Int.reduceSub, Int.reduceMul, Int.reduceNeg, Int.reducePow, Int.reduceEq, ↓reduceIte, Nat.reduceEqDiff, Nat.reduceAdd, Nat.reduceMul, Nat.reduceLeDiff, Nat.reduceSub, Nat.reduceLT, Int.reduceToNat, Int.reduceLT, Int.reduceLE, reduceCtorEq]
      repeat' ((first | refine FK_split (fun h_ => ?_) (fun h_ => ?_) | refine GK_split (fun h_ => ?_) (fun h_ => ?_) | refine ite_both (fun h_ => ?_) (fun h_ => ?_)) <;> (try simp only [decide_eq_true_eq, decide_eq_false_iff_not, Bool.not_true, Bool.not_false, Bool.not_eq_true', Bool.not_eq_false', Bool.not_eq_eq_eq_not, Decidable.not_not] at h_) <;> (try simp only [r17_0, r17_1, r17_2, r17_3, r17_4, r17_5, r17_6, r17_7, r17_8, r17_9, r17_10, r17_11, r17_12, r17_13, r17_14, r17_15, r17_16, r17_17, r17_18, r17_19, r17_20, r17_21, r17_22, r17_23, r17_24, c17, F17, v_right, g1', h_, go_sem, Int.reduceTMod, Int.reduceTDiv, Int.reduceDiv, Int.reduceMod, Int.reduceAdd, Int.reduceSub, Int.reduceMul, Int.reduceNeg, Int.reducePow, Int.reduceEq, ↓reduceIte, Nat.reduceEqDiff, Nat.reduceAdd, Nat.reduceMul, Nat.reduceLeDiff, Nat.reduceSub, Nat.reduceLT, Int.reduceToNat, Int.reduceLT, Int.reduceLE, reduceCtorEq]))
      exact fin _ _

/- Rows of polygons read; how long they are. Conditions: those that each theorem names. -/
open Go Go.Proofs
set_option linter.unusedSimpArgs false
set_option linter.unusedVariables false

theorem OPs.nil {p u v : Nat} {m : Mem} {n : Nat} : OPs p u v m n rnil [] := ⟨[], OL.nil, fun j hj => (by cases hj), rfl, fun i l hi => (by simp at hi)⟩
/-- The polygon i of a row. -/
theorem OPs.at {p u v : Nat} {m : Mem} {n : Nat} {r : Reg} {ls : List (List Pt)} (h : OPs p u v m n r ls) {i : Nat} {l : List Pt} (hi : ls[i]? = some l) :
    ∃ id b c, r = .one (.sl id 0 ls.length none 1) ∧ id < n ∧ m id = some b ∧ b.cells[i]? = some c ∧ RPt m n (.one c) l := by
  obtain ⟨cs, h1, h0, h2, h3⟩ := h
  obtain ⟨c, k1, k2, k3⟩ := h3 i l hi
  rcases h1 with ⟨_, e⟩ | ⟨id, e1, e2, e3, e4⟩
  · rw [e] at k1; simp at k1
  · refine ⟨id, _, c, by rw [← h2]; exact e1, e3, e4, ?_, k2⟩
    rw [encC_all]
    exact k1
theorem OPs.len {p u v : Nat} {m : Mem} {n : Nat} {r : Reg} {ls : List (List Pt)} (h : OPs p u v m n r ls) : lenO r = some (ls.length : Int) := by
  obtain ⟨cs, h1, h0, h2, h3⟩ := h
  rw [← h2]
  rcases h1 with ⟨e1, e2⟩ | ⟨id, e1, _⟩
  · rw [e1, e2]; rfl
  · rw [e1]; rfl
theorem barAt_l16 (h : Int) (l : List Pt) (i j : Nat) : ∀ x ∈ barAt h l i j, x.2.length < 4294967296 := fun x hx => by
  unfold barAt at hx
  split at hx
  · rw [List.mem_singleton] at hx; subst hx; show 4 < 4294967296; decide
  · cases hx
theorem bars_l16 (h : Int) (l : List Pt) : ∀ i, ∀ x ∈ barsTo h l i, x.2.length < 4294967296
  | 0, x, hx => by cases hx
  | i + 1, x, hx => by
    rw [barsTo, List.mem_append] at hx
    rcases hx with hx | hx
    · exact bars_l16 h l i x hx
    · exact barAt_l16 h l _ _ x hx
theorem discs_l16 (h : Int) (l : List Pt) (c : Bool) : ∀ i, ∀ x ∈ discsTo h l c i, x.2.length < 4294967296
  | 0, x, hx => by cases hx
  | i + 1, x, hx => by
    rw [discsTo, List.mem_append] at hx
    rcases hx with hx | hx
    · exact discs_l16 h l c i x hx
    · unfold discAt at hx
      split at hx
      · split at hx
        · rw [List.mem_singleton] at hx; subst hx; show 16 < 4294967296; decide
        · cases hx
      · cases hx
theorem along_l16 (h : Int) (l : List Pt) (c : Bool) : ∀ x ∈ alongI h l c, x.2.length < 4294967296 := fun x hx => by
  unfold alongI at hx
  rw [List.mem_append, List.mem_append] at hx
  rcases hx with (hx | hx) | hx
  · exact bars_l16 h l _ x hx
  · split at hx
    · exact barAt_l16 h l _ _ x hx
    · cases hx
  · exact discs_l16 h l c _ x hx
theorem OL.sidge {base : Nat} {m : Mem} {n : Nat} {r : Reg} {l : List Pt} (h : OPt base m n r l) {id : Nat} (hi : sid r = some id) : base ≤ id := by
  rcases h with ⟨rfl, _⟩ | ⟨id', rfl, h2, _⟩
  · cases hi
  · simp only [sid, Option.some.injEq] at hi; omega
theorem at1_mem {f : Pt → List (Bool × List Pt)} {q : List Pt} {i : Nat} {x : Bool × List Pt} (hx : x ∈ at1 f q i) : ∃ p, q[i]? = some p ∧ x ∈ f p := by
  unfold at1 at hx
  split at hx
  · exact ⟨_, by assumption, hx⟩
  · cases hx
theorem at2_mem {f : Pt → Pt → Bool × List Pt} {q : List Pt} {i j : Nat} {x : Bool × List Pt} (hx : x ∈ at2 f q i j) : ∃ p r, q[i]? = some p ∧ q[j]? = some r ∧ x = f p r := by
  unfold at2 at hx
  split at hx
  · exact ⟨_, _, by assumption, by assumption, List.mem_singleton.1 hx⟩
  · cases hx
theorem stroke_l16 (h : Int) (q : List Pt) (c : Bool) (cap : Int) : ∀ x ∈ strokeI q c h cap, x.2.length < 4294967296 := fun x hx => by
  have d16 : ∀ (i : Nat) (y : Bool × List Pt), y ∈ at1 (fun p => [discI h p]) q i → y.2.length < 4294967296 := fun i y hy => by
    obtain ⟨p, _, hy⟩ := at1_mem hy
    rw [List.mem_singleton] at hy
    subst hy
    show 16 < 4294967296; decide
  unfold strokeI at hx
  split at hx
  · split at hx
    · exact d16 _ _ hx
    · split at hx
      · obtain ⟨p, _, hx⟩ := at1_mem hx
        rw [List.mem_singleton] at hx
        subst hx
        show 4 < 4294967296; decide
      · cases hx
  · split at hx
    · rw [List.mem_append] at hx
      rcases hx with hx | hx
      · exact along_l16 h q c x hx
      · split at hx
        · cases hx
        · split at hx
          · rw [List.mem_append] at hx
            rcases hx with hx | hx
            · exact d16 _ _ hx
            · exact d16 _ _ hx
          · split at hx
            · rw [List.mem_append] at hx
              rcases hx with hx | hx
              · obtain ⟨p, r, _, _, rfl⟩ := at2_mem hx
                show 4 < 4294967296; decide
              · obtain ⟨p, r, _, _, rfl⟩ := at2_mem hx
                show 4 < 4294967296; decide
            · cases hx
    · cases hx
theorem at1_len (g : Pt → Bool × List Pt) (q : List Pt) (i : Nat) : (at1 (fun p => [g p]) q i).length ≤ 1 := by
  unfold at1; split <;> simp
theorem at2_len (f : Pt → Pt → Bool × List Pt) (q : List Pt) (i j : Nat) : (at2 f q i j).length ≤ 1 := by
  unfold at2; split <;> simp
theorem along_len (h : Int) (q : List Pt) (c : Bool) : (alongI h q c).length ≤ 2 * q.length + 1 := by
  have a := barsTo_len h q (q.length - 1)
  have b := barAt_len h q (q.length - 1) 0
  have d := discsTo_len h q c q.length
  unfold alongI
  rw [List.length_append, List.length_append]
  split <;> (try simp only [List.length_nil]) <;> omega
theorem stroke_len (h : Int) (q : List Pt) (c : Bool) (cap : Int) : (strokeI q c h cap).length ≤ 2 * q.length + 3 := by
  have a := along_len h q c
  have b := at1_len (discI h) q
  have d := at1_len (sqI h) q
  have e := at2_len (firstI h) q
  have f := at2_len (lastI h) q
  have b0 := b 0
  have bl := b (q.length - 1)
  have d0 := d 0
  have e0 := e 0 1
  have f0 := f (q.length - 2) (q.length - 1)
  unfold strokeI
  repeat' split
  all_goals (try rw [List.length_append]) <;> (try rw [List.length_append]) <;> (try simp only [List.length_nil]) <;> omega

end Go.Proofs.YtidpeongblkcbaaDoor.Sy
