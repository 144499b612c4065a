/- Rows of subpaths in memory: the last one has more points, is closed; one comes more. Conditions: those that each theorem names. -/
import Derived.Test.YtpleidpbapgmiaaDoorPfA
namespace Go.Proofs.YtpleidpbapgmiaaDoor.Sy
open Go Go.Proofs
set_option linter.unusedSimpArgs false
set_option linter.unusedVariables false
set_option maxRecDepth 20000
attribute [local go_sem] XK_seq XK_block XK_skip XK_exit XK_ret XK_cond XK_reg XK_dreg XK_ureg KN_seq KN_blk KN_lp KN_chk KN_chku KN_top KN_fin KX_seq KX_lp KX_blk KX_chk KX_top KR_seq KR_blk KR_lp KR_chk KR_top KR_fin FK_true FK_false RK_nil RK_mv RK_pick RK_alloc RK_box RK_build RK_bslice RK_load1 RK_loadA RK_store RK_nilchk RK_bin RK_beq RK_eqv RK_eqnil RK_un RK_conv RK_mkfn RK_mkslice RK_slS RK_slA RK_fadr RK_fld RK_iadrA RK_iadrS RK_idxA RK_ext RK_lenC RK_cap RK_app RK_appz RK_cpy RK_mn RK_mx RK_len RK_carry RK_clr carryR um0 um1 ThenK_some RK_guard GK_tt GK_ff GK_tf GK_ft GK_none QK_some RK_callQ RK_callZ RK_callT TK_some VK_clo RK_callV
  evalOp evO evOs upd_at unfrz_at putE_some putE_none boolOf_b boolOf_tup Option.map_some evRes pack_one pack_two pack_three pack_none List.getD_cons_zero List.getD_cons_succ getD_nil
  Option.some.injEq exists_eq_left' Reg.cs? fillC setL List.set_cons_zero List.set_cons_succ List.length_cons List.length_nil rd_upd rd_updn rdB wr List.drop_zero List.drop_succ_cons List.take_succ_cons List.take_zero List.getElem?_cons_zero List.getElem?_cons_succ
  ix Int.toNat_zero lenO_sl lenO_nil nadd na_eq na_eq' na_lt na_ee na_ll na_ne na_ne' na_tt
attribute [local go_sem] Reg.flat_one Reg.flat_agg Reg.flat_tup flats_nil flats_cons Cell.flat_sc Cell.flat_ptr List.all_cons List.all_nil disOk safeOk safeR decide_eq_true_eq decide_eq_false_iff_not
  List.map_cons List.map_nil List.cons_append List.nil_append List.append_nil evalOp.capsOf Bool.false_bne Bool.bne_false Bool.true_bne Bool.bne_true bne_self_eq_false beq_self_eq_true Bool.not_not Bool.false_and Bool.and_false Bool.true_or Bool.or_true beq_iff_eq eqCells
  Bool.true_beq Bool.false_beq Bool.not_eq_true' Bool.not_eq_eq_eq_not Bool.not_eq_false' and_false false_and frz_at idOf noId Option.isSome_some Bool.and_eq_true
attribute [local go_sem] wr_eq bV_add bV_sub bV_mul bV_eql bV_neq bV_lss bV_leq bV_gtr bV_geq bV_quo bV_rem bV_shr bV_shl uV_not uV_neg wrapU bits_and bits_or bits_xor IntKind.bits Nat.min_eq_left Nat.min_eq_right Nat.min_self
attribute [local go_sem] bne_iff_ne Int.cast_ofNat_Int Nat.zero_add Nat.add_zero and_self and_true true_and ne_eq not_false_eq_true not_true_eq_false decide_true decide_false Bool.false_eq_true Bool.not_true Bool.not_false Bool.true_and Bool.and_true Bool.or_false Bool.false_or Bool.and_self

abbrev encB (r : Cell × Bool) : List Cell := [r.1, .sc (.bool r.2)]
theorem cb2 (r : Cell × Bool) : (encB r).length = 2 := rfl
/-- A row of points of the call's own. -/
def OPd (base : Nat) (m : Mem) (n : Nat) (c : Cell) (l : List Pt) : Prop :=
  (c = .sc (.slice none 0 0) ∧ l = []) ∨ ∃ id cap, c = .sl id 0 l.length cap 2 ∧ base ≤ id ∧ id < n ∧ m id = some ⟨l.flatMap Pt.cs, true⟩ ∧ (cap = none ∨ cap = some l.length)
theorem OPd.lt {base : Nat} {m : Mem} {n : Nat} {c : Cell} {l : List Pt} (h : OPd base m n c l) {id : Nat} (hi : sid (.one c) = some id) : base ≤ id ∧ id < n := by
  rcases h with ⟨rfl, _⟩ | ⟨id', cap, rfl, h1, h2, _⟩
  · cases hi
  · simp only [sid, Option.some.injEq] at hi; omega
theorem OPd.keep {base : Nat} {m m' : Mem} {n n' : Nat} {c : Cell} {l : List Pt} (h : OPd base m n c l) (hn : n ≤ n') (hm : ∀ id, sid (.one c) = some id → m' id = m id) : OPd base m' n' c l := by
  rcases h with h | ⟨id', cap, rfl, h1, h2, h3, h4⟩
  · exact Or.inl h
  · exact Or.inr ⟨id', cap, rfl, h1, by omega, by rw [hm id' rfl]; exact h3, h4⟩
theorem OPd.rl {base : Nat} {m : Mem} {n : Nat} {c : Cell} {l : List Pt} (h : OPd base m n c l) : RPt m n (.one c) l := by
  rcases h with ⟨rfl, rfl⟩ | ⟨id, cap, rfl, h1, h2, h3, h4⟩
  · exact RL.nil
  · refine Or.inr ⟨id, 0, cap, rfl, h2, ?_⟩
    have hl := flatMap_len Pt.cs 2 cs2 l
    rw [rd_of h3]
    unfold rdB
    rw [if_pos (by rw [hl]; omega), List.drop_zero, ← hl, List.take_length]
/-- Points behind a row. -/
theorem K_appD {T : Nat → Option SFun} {base n0 n nx : Nat} {m0 m : Mem} {c0 : Cell} {x : Reg} {l xs : List Pt} {by' : Nat} {d : Option Nat} {os : List SOper} {e : Nat → Reg} {k : Kt}
    (ho : OPd base m0 n0 c0 l) (hn : n0 ≤ n) (hm : ∀ id, sid (.one c0) = some id → m id = m0 id) (hx : RPt m nx x xs) (hne : xs ≠ []) (hsm : l.length + xs.length ≤ 4294967296) (hbase : base ≤ n)
    (next : ∀ c m', OPd base m' (n + 1) c (l ++ xs) → (∀ id, id < n → sid (.one c0) ≠ some id → m' id = m id) → sid (.one c) = some n → RK T os (putE e d (.one c)) m' (n + 1) k) :
    ThenK T d os e k (evApp m n 2 by' (.one c0) x) := by
  have hpos : 0 < xs.length := List.length_pos_iff.2 hne
  have hnews : newsOf m 2 x = some (xs.length, xs.flatMap Pt.cs) := by
    rcases hx with ⟨rfl, rfl⟩ | ⟨ix, off, cap, rfl, _, h3⟩
    · exact absurd rfl hne
    · simp only [newsOf, if_true, h3, Option.map_some]
  have fin : ∀ m', m' n = some ⟨l.flatMap Pt.cs ++ xs.flatMap Pt.cs, true⟩ → OPd base m' (n + 1) (.sl n 0 (l.length + xs.length) none 2) (l ++ xs) := fun m' h => Or.inr ⟨n, none, by simp, hbase, by omega, by rw [h]; simp, Or.inl rfl⟩
  rcases ho with ⟨rfl, rfl⟩ | ⟨id, cap, rfl, h2, h3, h4, h7⟩
  · simp only [evApp, hnews]
    rw [if_neg (by omega), if_pos (by simp only [List.length_nil] at hsm; omega)]
    refine next (.sl n 0 xs.length none 2) _ (Or.inr ⟨n, none, by simp, hbase, by omega, by rw [upd_same]; simp, Or.inl rfl⟩) (fun i hi _ => upd_ne _ _ (by omega)) rfl
  · have h5 : m id = some ⟨l.flatMap Pt.cs, true⟩ := by rw [hm id rfl]; exact h4
    have hl := flatMap_len Pt.cs 2 cs2 l
    have h6 : rd m id 0 (l.length * 2) = some (l.flatMap Pt.cs) := by
      rw [rd_of h5]
      unfold rdB
      rw [if_pos (by rw [hl]; omega), List.drop_zero, ← hl, List.take_length]
    rcases h7 with rfl | rfl
    · simp only [evApp, hnews, if_true, h5, h6, Option.map_some, true_and, if_pos hsm]
      exact next _ _ (fin _ (upd_same _ _ _)) (fun i hi hs => by rw [upd_ne _ _ (by omega), upd_ne _ _ (fun e => hs (by rw [e]; rfl))]) rfl
    · simp only [evApp, hnews, true_and, if_pos hsm]
      rw [if_neg (by omega)]
      simp only [if_true, h6, Option.map_some]
      exact next _ _ (fin _ (upd_same _ _ _)) (fun i hi hs => upd_ne _ _ (by omega)) rfl
/-- A row of subpaths of the call's own. -/
def OSc (u base : Nat) (m : Mem) (n : Nat) (oc : Cell) (o : List Sb) : Prop :=
  ∃ cs : List Cell, cs.length = o.length ∧ OL encB 2 base m n (.one oc) (cs.zip (o.map Sb.c)) ∧ sid (.one oc) ≠ some u ∧
    ∀ (i : Nat) (c : Cell) (s : Sb), cs[i]? = some c → o[i]? = some s → OPd base m n c s.L ∧ ∀ j, sid (.one c) = some j → (sid (.one oc) ≠ some j ∧ j ≠ u) ∧ ∀ i' c', i' ≠ i → cs[i']? = some c' → sid (.one c') ≠ some j
theorem OSc.nil {u base : Nat} {m : Mem} {n : Nat} : OSc u base m n (.sc (.slice none 0 0)) [] := ⟨[], rfl, OL.nil, fun h => (by cases h), fun i c s h => by simp at h⟩
theorem OSc.lt {u base : Nat} {m : Mem} {n : Nat} {oc : Cell} {o : List Sb} (h : OSc u base m n oc o) {id : Nat} (hi : sid (.one oc) = some id) : base ≤ id ∧ id < n := by
  obtain ⟨cs, _, h1, _⟩ := h
  rcases h1 with ⟨e, _⟩ | ⟨id', e, h2, h3, _⟩
  · rw [e] at hi; cases hi
  · rw [e] at hi; simp only [sid, Option.some.injEq] at hi; omega
theorem OSc.re {u u' base : Nat} {m : Mem} {n : Nat} {oc : Cell} {o : List Sb} (h : OSc u base m n oc o) (hu : n ≤ u' ∨ u' < base) : OSc u' base m n oc o := by
  have hlt := fun {id : Nat} (hi : sid (.one oc) = some id) => h.lt hi
  obtain ⟨cs, h1, h2, _, h3⟩ := h
  refine ⟨cs, h1, h2, fun e => by have := hlt e; omega, fun i c s hc hs => ?_⟩
  obtain ⟨k1, k2⟩ := h3 i c s hc hs
  exact ⟨k1, fun j hj => ⟨⟨(k2 j hj).1.1, by have := k1.lt hj; omega⟩, (k2 j hj).2⟩⟩
theorem OSc.keep {u base : Nat} {m m' : Mem} {n n' : Nat} {oc : Cell} {o : List Sb} (h : OSc u base m n oc o) (hn : n ≤ n') (hm : ∀ id, base ≤ id → id < n → id ≠ u → m' id = m id) : OSc u base m' n' oc o := by
  obtain ⟨cs, h1, h2, hu, h3⟩ := h
  have o1 : OL encB 2 base m' n' (.one oc) (cs.zip (o.map Sb.c)) := by
    rcases h2 with h | ⟨id, e1, e2, e3, e4⟩
    · exact Or.inl h
    · exact Or.inr ⟨id, e1, e2, by omega, by rw [hm id e2 e3 (fun e => hu (by rw [e1, ← e]; rfl))]; exact e4⟩
  refine ⟨cs, h1, o1, hu, fun i c s hc hs => ?_⟩
  obtain ⟨k1, k2⟩ := h3 i c s hc hs
  exact ⟨k1.keep hn (fun id hid => hm id (k1.lt hid).1 (k1.lt hid).2 (k2 id hid).1.2), k2⟩
theorem OSc.base {u b b' : Nat} {m : Mem} {n : Nat} {oc : Cell} {o : List Sb} (h : OSc u b m n oc o) (hb : b' ≤ b) : OSc u b' m n oc o := by
  obtain ⟨cs, h1, h2, hu, h3⟩ := h
  refine ⟨cs, h1, h2.base hb, hu, fun i c s hc hs => ?_⟩
  obtain ⟨k1, k2⟩ := h3 i c s hc hs
  refine ⟨?_, k2⟩
  rcases k1 with h | ⟨id, cap, e1, e2, e3⟩
  · exact Or.inl h
  · exact Or.inr ⟨id, cap, e1, by omega, e3⟩
theorem zip_len {cs : List Cell} {o : List Sb} (h : cs.length = o.length) : (cs.zip (o.map Sb.c)).length = o.length := by
  rw [List.length_zip, List.length_map, h, Nat.min_self]
theorem OSc.len {u base : Nat} {m : Mem} {n : Nat} {oc : Cell} {o : List Sb} (h : OSc u base m n oc o) : lenO (.one oc) = some (o.length : Int) := by
  obtain ⟨cs, h1, h2, _, h3⟩ := h
  rw [(h2.rl cb2).len, zip_len h1]
/-- The subpath i. -/
theorem OSc.get {u base : Nat} {m : Mem} {n : Nat} {oc : Cell} {o : List Sb} (h : OSc u base m n oc o) {i : Nat} {s : Sb} (hs : o[i]? = some s) :
    ∃ (id : Nat) (c : Cell) (b : Blk), oc = .sl id 0 o.length none 2 ∧ id < n ∧ m id = some b ∧ b.cells[i * 2]? = some c ∧ b.cells[i * 2 + 1]? = some (.sc (.bool s.c)) ∧ RPt m n (.one c) s.L := by
  obtain ⟨cs, h1, h2, _, h3⟩ := h
  have hi : i < o.length := (List.getElem?_eq_some_iff.1 hs).1
  have hc : cs[i]? = some (cs[i]'(by omega)) := List.getElem?_eq_getElem (by omega)
  generalize cs[i]'(by omega) = c at *
  have hz : (cs.zip (o.map Sb.c))[i]? = some (c, s.c) := by
    rw [List.getElem?_zip_eq_some]
    exact ⟨hc, by rw [List.getElem?_map, hs]; rfl⟩
  obtain ⟨id, off, cap, e1, e2, e3⟩ := (h2.rl cb2).at cb2 hz
  have e0 : off = 0 ∧ cap = none := by
    rcases h2 with ⟨e, _⟩ | ⟨id', e, _⟩
    · rw [e] at e1; cases e1
    · rw [e] at e1
      injection e1 with e1
      injection e1 with a1 a2 a3 a4
      exact ⟨a2.symm, a4.symm⟩
  obtain ⟨rfl, rfl⟩ := e0
  obtain ⟨b, g1, g2⟩ := rd_cell e3 (a := 0) (c := c) rfl
  obtain ⟨b', g3, g4⟩ := rd_cell e3 (a := 1) (c := .sc (.bool s.c)) rfl
  rw [g1] at g3
  cases g3
  rw [Nat.zero_add, Nat.add_zero] at g2
  rw [Nat.zero_add] at g4
  injection e1 with e1
  rw [zip_len h1] at e1
  exact ⟨id, c, b, e1, e2, g1, g2, g4, (h3 i c s hc hs).1.rl⟩
/-- A subpath more. -/
theorem K_pushS {T : Nat → Option SFun} {u base n0 n j by' : Nat} {m0 m : Mem} {oc c : Cell} {L : List Pt} {b ow : Bool} {o : List Sb} {d : Option Nat} {os : List SOper} {e : Nat → Reg} {k : Kt}
    (h : OSc u base m0 n0 oc o) (hun : u ≠ n) (hn : n0 ≤ n) (hm : ∀ id, base ≤ id → id < n0 → id ≠ u → m id = m0 id) (hj : m j = some ⟨[c, .sc (.bool b)], ow⟩) (hc : OPd base m n c L) (hcs : ∀ i, sid (.one c) = some i → n0 ≤ i ∧ i ≠ u) (hsm : o.length + 1 ≤ 4294967296) (hbase : base ≤ n)
    (next : ∀ oc' m', OSc u base m' (n + 1) oc' (o ++ [⟨L, b⟩]) → (∀ id, id < n → sid (.one oc) ≠ some id → m' id = m id) → (∀ id, sid (.one oc') = some id → id = n) → RK T os (putE e d (.one oc')) m' (n + 1) k) :
    ThenK T d os e k (evApp m n 2 by' (.one oc) (.one (.sl j 0 1 (some 1) 2))) := by
  have hlt := fun {id : Nat} (hi : sid (.one oc) = some id) => h.lt hi
  obtain ⟨cs, h1, h2, hu, h3⟩ := h
  have h2' : OL encB 2 base m n (.one oc) (cs.zip (o.map Sb.c)) := by
    rcases h2 with h | ⟨id, e1, e2, e3, e4⟩
    · exact Or.inl h
    · exact Or.inr ⟨id, e1, e2, by omega, by rw [hm id e2 e3 (fun e => hu (by rw [e1, ← e]; rfl))]; exact e4⟩
  refine K_push2 (enc := encB) cb2 (by decide) (p := (c, b)) (o := ow) h2' (Nat.le_refl _) (fun _ _ _ => rfl) hj (by rw [zip_len h1]; exact hsm) hbase ?_
  intro oc' m' ho hf hs
  have hz : cs.zip (o.map Sb.c) ++ [(c, b)] = (cs ++ [c]).zip ((o ++ [Sb.mk L b]).map Sb.c) := by
    rw [List.map_append, List.zip_append (by rw [List.length_map]; exact h1)]
    rfl
  rw [hz] at ho
  refine next oc' m' ⟨cs ++ [c], by simp [h1], ho, fun e => hun (hs u e), fun i c2 s hc2 hs2 => ?_⟩ hf hs
  by_cases hi : i < cs.length
  · rw [List.getElem?_append_left hi] at hc2
    rw [List.getElem?_append_left (by omega)] at hs2
    obtain ⟨k1, k2⟩ := h3 i c2 s hc2 hs2
    refine ⟨k1.keep (by omega) (fun id hid => ?_), fun j' hj' => ⟨⟨fun e => ?_, (k2 j' hj').1.2⟩, fun i' c' hi' hc' => ?_⟩⟩
    · have := k1.lt hid
      rw [hf id (by omega) (k2 id hid).1.1, hm id this.1 this.2 (k2 id hid).1.2]
    · have := hs j' e
      have := k1.lt hj'
      omega
    · by_cases hi2 : i' < cs.length
      · rw [List.getElem?_append_left hi2] at hc'
        exact (k2 j' hj').2 i' c' hi' hc'
      · rw [List.getElem?_append_right (by omega)] at hc'
        obtain ⟨t, ht⟩ : ∃ t, i' - cs.length = t := ⟨_, rfl⟩
        rw [ht] at hc'
        cases t with
        | zero =>
          simp at hc'
          subst hc'
          intro e
          have := hcs j' e
          have := k1.lt hj'
          omega
        | succ t => simp at hc'
  · have he : i = cs.length := by
      have := (List.getElem?_eq_some_iff.1 hc2).1
      simp at this
      omega
    subst he
    rw [List.getElem?_append_right (Nat.le_refl _), Nat.sub_self] at hc2
    rw [h1, List.getElem?_append_right (Nat.le_refl _), Nat.sub_self] at hs2
    simp at hc2 hs2
    subst hc2 hs2
    refine ⟨hc.keep (by omega) (fun id hid => hf id (hc.lt hid).2 (fun e => ?_)), fun j' hj' => ⟨⟨fun e => ?_, (hcs j' hj').2⟩, fun i' c' hi' hc' => ?_⟩⟩
    · have := hcs id hid
      have := (hlt e).2
      omega
    · have := hs j' e
      have := (hc.lt hj').2
      omega
    · have hi2 : i' < cs.length := by
        have := (List.getElem?_eq_some_iff.1 hc').1
        simp at this
        omega
      rw [List.getElem?_append_left hi2] at hc'
      obtain ⟨k1, k2⟩ := h3 i' c' (o[i']'(by omega)) hc' (List.getElem?_eq_getElem (by omega))
      intro e
      have := (k1.lt e).2
      have := hcs j' hj'
      omega
/-- The last subpath, and what stands there when it is another one. -/
theorem OSc.last {u base : Nat} {m : Mem} {n : Nat} {oc : Cell} {o : List Sb} {s : Sb} (h : OSc u base m n oc (o ++ [s])) :
    ∃ (id : Nat) (cl : Cell) (R : List Cell), oc = .sl id 0 (o.length + 1) none 2 ∧ base ≤ id ∧ id < n ∧ R.length = o.length * 2 ∧ m id = some ⟨R ++ [cl, .sc (.bool s.c)], true⟩ ∧ OPd base m n cl s.L ∧ sid (.one cl) ≠ some id ∧ id ≠ u ∧ sid (.one cl) ≠ some u ∧
      ∀ (m' : Mem) (n' : Nat) (c' : Cell) (s' : Sb), n ≤ n' → m' id = some ⟨R ++ [c', .sc (.bool s'.c)], true⟩ → (∀ j, base ≤ j → j < n → j ≠ id → j ≠ u → (sid (.one cl) ≠ some j ∨ c' = cl) → m' j = m j) → OPd base m' n' c' s'.L →
        (c' = cl ∨ ∀ j, sid (.one c') = some j → n ≤ j ∧ j ≠ u) → OSc u base m' n' oc (o ++ [s']) := by
  obtain ⟨cs, h1, h2, hu, h3⟩ := h
  obtain ⟨ca, cl, rfl⟩ := snoc_of (o := cs) (fun e => by rw [e] at h1; simp at h1)
  have hla : ca.length = o.length := by simpa using h1
  have hz : ∀ (c : Cell) (x : Sb), (ca ++ [c]).zip ((o ++ [x]).map Sb.c) = ca.zip (o.map Sb.c) ++ [(c, x.c)] := fun c x => by
    rw [List.map_append, List.zip_append (by simp [hla])]
    rfl
  have hzl := zip_len hla
  rw [hz] at h2
  have h2' := h2.resolve_left (fun h => by simp at h)
  obtain ⟨id, e1, e2, e3, e4⟩ := h2'
  have hoc : oc = .sl id 0 (o.length + 1) none 2 := by
    injection e1 with e1
    rw [e1, List.length_append, hzl]
    rfl
  subst hoc
  rw [List.flatMap_append] at e4
  have hlast : (ca ++ [cl])[ca.length]? = some cl := by rw [List.getElem?_append_right (Nat.le_refl _), Nat.sub_self]; rfl
  have hlasts : (o ++ [s])[ca.length]? = some s := by rw [hla, List.getElem?_append_right (Nat.le_refl _), Nat.sub_self]; rfl
  obtain ⟨kl, kl2⟩ := h3 ca.length cl s hlast hlasts
  refine ⟨id, cl, (ca.zip (o.map Sb.c)).flatMap encB, rfl, e2, e3, by rw [flatMap_len encB 2 cb2, hzl], by rw [e4]; rfl, kl, fun e => (kl2 id e).1.1 rfl, fun e => hu (by rw [e1, e]; rfl), fun e => (kl2 u e).1.2 rfl, ?_⟩
  intro m' n' c' s' hn hid hf hx hs
  refine ⟨ca ++ [c'], by simp [hla], Or.inr ⟨id, by rw [hz, List.length_append, hzl]; rfl, e2, by omega, by rw [hid, hz, List.flatMap_append]; rfl⟩, hu, fun i c x hc hxs => ?_⟩
  by_cases hi : i < ca.length
  · rw [List.getElem?_append_left hi] at hc
    have hio : i < o.length := by omega
    rw [List.getElem?_append_left hio] at hxs
    obtain ⟨k1, k2⟩ := h3 i c x (by rw [List.getElem?_append_left hi]; exact hc) (by rw [List.getElem?_append_left hio]; exact hxs)
    refine ⟨k1.keep hn (fun j hj => hf j (k1.lt hj).1 (k1.lt hj).2 (fun e => (k2 j hj).1.1 (by rw [e]; rfl)) (k2 j hj).1.2 (Or.inl ((k2 j hj).2 ca.length cl (by omega) hlast))), fun j hj => ⟨(k2 j hj).1, fun i' c2 hi' hc2 => ?_⟩⟩
    by_cases hi2 : i' < ca.length
    · rw [List.getElem?_append_left hi2] at hc2
      exact (k2 j hj).2 i' c2 hi' (by rw [List.getElem?_append_left hi2]; exact hc2)
    · rw [List.getElem?_append_right (by omega)] at hc2
      obtain ⟨t, ht⟩ : ∃ t, i' - ca.length = t := ⟨_, rfl⟩
      rw [ht] at hc2
      cases t with
      | zero =>
        simp at hc2
        subst hc2
        rcases hs with e | hs
        · rw [e]; exact (k2 j hj).2 ca.length cl (by omega) hlast
        · intro e
          have := hs j e
          have := (k1.lt hj).2
          omega
      | succ t => simp at hc2
  · have he : i = ca.length := by
      have := (List.getElem?_eq_some_iff.1 hc).1
      simp at this
      omega
    subst he
    rw [List.getElem?_append_right (Nat.le_refl _), Nat.sub_self] at hc
    rw [hla, List.getElem?_append_right (Nat.le_refl _), Nat.sub_self] at hxs
    simp at hc hxs
    subst hc hxs
    refine ⟨hx, fun j hj => ⟨⟨fun e => ?_, ?_⟩, fun i' c2 hi' hc2 => ?_⟩⟩
    · rcases hs with e9 | hs
      · rw [e9] at hj
        exact (kl2 j hj).1.1 e
      · have := hs j hj
        simp only [sid, Option.some.injEq] at e
        omega
    · rcases hs with e9 | hs
      · rw [e9] at hj
        exact (kl2 j hj).1.2
      · exact (hs j hj).2
    · have hi2 : i' < ca.length := by
        have := (List.getElem?_eq_some_iff.1 hc2).1
        simp at this
        omega
      rw [List.getElem?_append_left hi2] at hc2
      rcases hs with e9 | hs
      · rw [e9] at hj
        exact (kl2 j hj).2 i' c2 hi' (by rw [List.getElem?_append_left hi2]; exact hc2)
      · obtain ⟨k1, k2⟩ := h3 i' c2 (o[i']'(by omega)) (by rw [List.getElem?_append_left hi2]; exact hc2) (by rw [List.getElem?_append_left (by omega)]; exact List.getElem?_eq_getElem (by omega))
        intro e
        have := (k1.lt e).2
        have := hs j hj
        omega
end Go.Proofs.YtpleidpbapgmiaaDoor.Sy
