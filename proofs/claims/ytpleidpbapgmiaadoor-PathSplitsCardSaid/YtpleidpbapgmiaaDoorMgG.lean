import Derived.Test.YtpleidpbapgmiaaDoorMgF
/- A segment parted in two: the plain law. Conditions: those that each theorem names. -/
namespace Go.Proofs.YtpleidpbapgmiaaDoor.Sy
open Go Go.Proofs
set_option linter.unusedSimpArgs false
set_option linter.unusedVariables false

def cvS (s : Sg) : Cu.Cv → Sg
  | .quad _ b c => ⟨s.k, b, c, s.c⟩
  | .cub _ b c d => ⟨s.k, b, c, d⟩
def spA (fr : Pt) (s : Sg) : Sg := if s.k = 2 then ⟨s.k, Cu.mid fr s.a, s.b, s.c⟩ else cvS s (cvOf fr s).fst
def spB (fr : Pt) (s : Sg) : Sg := if s.k = 2 then s else cvS s (cvOf fr s).snd
theorem sp_k {fr : Pt} {s : Sg} : (spA fr s).k = s.k ∧ (spB fr s).k = s.k := by
  unfold spA spB
  split
  · exact ⟨rfl, rfl⟩
  · cases cvOf fr s <;> exact ⟨rfl, rfl⟩
theorem chk_pts {op : Bool} {s : Sg} (h : chkS op s = 0) (h2 : s.k = 2 ∨ s.k = 3 ∨ s.k = 4) : op = true ∧ (s.pts.drop (need s.k).toNat).all zP = true ∧ (s.pts.take (need s.k).toNat).all inP = true := by
  obtain ⟨hK, hU, hR⟩ := chkS_zero h
  obtain ⟨k1, k5, k6⟩ := badK_false hK
  exact ⟨k6.resolve_right (by omega), by simpa [badU] using hU, by simpa [badR] using hR⟩
theorem chkS_of {s : Sg} (h2 : s.k = 2 ∨ s.k = 3 ∨ s.k = 4) (hU : (s.pts.drop (need s.k).toNat).all zP = true) (hR : (s.pts.take (need s.k).toNat).all inP = true) : chkS true s = 0 := by
  have hK : badK true s = false := by
    unfold badK
    rw [decide_eq_false (by omega), decide_eq_false (by omega)]
    rfl
  unfold chkS
  rw [hK, show badU s = false by unfold badU; rw [hU]; rfl, show badR s = false by unfold badR; rw [hR]; rfl]
  rfl
theorem sp_chk {fr : Pt} {op : Bool} {s : Sg} (hfr : inP fr = true) (h2 : s.k = 2 ∨ s.k = 3 ∨ s.k = 4) (h : chkS op s = 0) : chkS true (spA fr s) = 0 ∧ chkS true (spB fr s) = 0 := by
  obtain ⟨_, hU, hR⟩ := chk_pts h h2
  obtain ⟨k, a, b, c⟩ := s
  simp only at h2
  have m2 : ∀ {p q : Pt}, inP p = true → inP q = true → inP (Cu.mid p q) = true := fun h1 h2 => Cu.inP_mid h1 h2
  rcases h2 with rfl | rfl | rfl
  · simp [need, Sg.pts] at hU hR
    constructor
    · refine chkS_of (Or.inl rfl) ?_ ?_
      · simp [spA, need, Sg.pts, hU]
      · simp [spA, need, Sg.pts, m2, hfr, hR]
    · refine chkS_of (Or.inl rfl) ?_ ?_
      · simp [spB, need, Sg.pts, hU]
      · simp [spB, need, Sg.pts, m2, hfr, hR]
  · simp [need, Sg.pts] at hU hR
    have q1 := m2 hfr hR.1
    have q2 := m2 hR.1 hR.2
    have q4 := m2 q1 q2
    constructor
    · refine chkS_of (Or.inr (Or.inl rfl)) ?_ ?_
      · simp [spA, cvOf, cvS, Cu.Cv.fst, need, Sg.pts, hU]
      · simp [spA, cvOf, cvS, Cu.Cv.fst, need, Sg.pts, q1, q2, q4, hfr, hR]
    · refine chkS_of (Or.inr (Or.inl rfl)) ?_ ?_
      · simp [spB, cvOf, cvS, Cu.Cv.snd, need, Sg.pts, hU]
      · simp [spB, cvOf, cvS, Cu.Cv.snd, need, Sg.pts, q1, q2, q4, hfr, hR]
  · simp [need, Sg.pts] at hU hR
    have q1 := m2 hfr hR.1
    have q2 := m2 hR.1 hR.2.1
    have q3 := m2 hR.2.1 hR.2.2
    have q4 := m2 q1 q2
    have q5 := m2 q2 q3
    have q6 := m2 q4 q5
    constructor
    · refine chkS_of (Or.inr (Or.inr rfl)) ?_ ?_
      · simp [spA, cvOf, cvS, Cu.Cv.fst, need, Sg.pts, hU]
      · simp [spA, cvOf, cvS, Cu.Cv.fst, need, Sg.pts, q1, q2, q3, q4, q5, q6, hfr, hR]
    · refine chkS_of (Or.inr (Or.inr rfl)) ?_ ?_
      · simp [spB, cvOf, cvS, Cu.Cv.snd, need, Sg.pts, hU]
      · simp [spB, cvOf, cvS, Cu.Cv.snd, need, Sg.pts, q1, q2, q3, q4, q5, q6, hfr, hR]
def splL (l : List Sg) (i : Nat) (fr : Pt) (s : Sg) : List Sg := l.take i ++ [spA fr s, spB fr s] ++ l.drop (i + 1)
theorem chk_split {fr : Pt} {s : Sg} (hfr : inP fr = true) (h2 : s.k = 2 ∨ s.k = 3 ∨ s.k = 4) : ∀ (a : List Sg) (op : Bool) (t : List Sg), chkL op (a ++ s :: t) = 0 → chkL op (a ++ spA fr s :: spB fr s :: t) = 0
  | [], op, t, h => by
    simp only [List.nil_append, chkL] at h ⊢
    have h0 : chkS op s = 0 := by
      split at h
      · assumption
      · exact h
    rw [if_pos h0] at h
    obtain ⟨e, _⟩ := chk_pts h0 h2
    subst e
    obtain ⟨h3, h4⟩ := sp_chk hfr h2 h0
    obtain ⟨k1, k2⟩ := sp_k (fr := fr) (s := s)
    rw [if_pos h3, k1, k2]
    have e5 : (!decide (s.k = 5)) = true := by
      rw [decide_eq_false (by omega)]
      rfl
    rw [e5] at h ⊢
    rw [if_pos h4]
    exact h
  | x :: a, op, t, h => by
    simp only [List.cons_append, chkL] at h ⊢
    split at h
    · rename_i h0
      rw [if_pos h0]
      exact chk_split hfr h2 a _ t h
    · rename_i h0
      exact absurd h h0
theorem splL_chk {l : List Sg} {i : Nat} {fr : Pt} {s : Sg} (hk : chkP l = 0) (hs : l[i]? = some s) (hfr : inP fr = true) (h2 : s.k = 2 ∨ s.k = 3 ∨ s.k = 4) (hl : l.length < 4096) : chkP (splL l i fr s) = 0 := by
  have hi : i < l.length := (List.getElem?_eq_some_iff.1 hs).1
  have hk' : chkL false l = 0 := by
    unfold chkP at hk
    split at hk
    · cases hk
    · exact hk
  have e : l = l.take i ++ s :: l.drop (i + 1) := by
    obtain ⟨_, e⟩ := List.getElem?_eq_some_iff.1 hs
    rw [← e, List.getElem_cons_drop, List.take_append_drop]
  unfold chkP splL
  rw [if_neg (by simp; omega)]
  rw [e] at hk'
  have := chk_split hfr h2 _ _ _ hk'
  simpa using this
def mvS (fr : Pt) : Sg := ⟨1, fr, ⟨0, 0⟩, ⟨0, 0⟩⟩
theorem mv_chk {fr : Pt} (hfr : inP fr = true) : chkS false (mvS fr) = 0 := by
  unfold chkS
  rw [show badK false (mvS fr) = false from rfl, show badU (mvS fr) = false from rfl, show badR (mvS fr) = false by simp [badR, mvS, need, Sg.pts, hfr]]
  rfl
theorem old_chk {fr : Pt} {s : Sg} (hfr : inP fr = true) (h : chkS true s = 0) : chkP [mvS fr, s] = 0 := by
  unfold chkP
  rw [if_neg (by simp)]
  simp only [chkL]
  rw [if_pos (mv_chk hfr), show (!decide ((mvS fr).k = 5)) = true from rfl, if_pos h]
theorem now_chk {fr : Pt} {s t : Sg} (hfr : inP fr = true) (h : chkS true s = 0) (h5 : s.k ≠ 5) (h2 : chkS true t = 0) : chkP [mvS fr, s, t] = 0 := by
  unfold chkP
  rw [if_neg (by simp)]
  simp only [chkL]
  rw [if_pos (mv_chk hfr), show (!decide ((mvS fr).k = 5)) = true from rfl, if_pos h, show (!decide (s.k = 5)) = true by rw [decide_eq_false h5]; rfl, if_pos h2]
theorem old_st {fr : Pt} {s : Sg} (d : Nat) (h2 : s.k = 3 ∨ s.k = 4) : (stI d [mvS fr, s] 2).2 = [⟨fr :: Cu.flat d (cvOf fr s), false⟩] := by
  have e : stI d [mvS fr, s] 2 = stF d (stF d (⟨0, 0⟩, []) (mvS fr)) s := rfl
  rw [e]
  have e1 : stF d (⟨0, 0⟩, []) (mvS fr) = (fr, [⟨[fr], false⟩]) := rfl
  rw [e1]
  simp only [stF, stepF]
  rw [if_neg (by omega)]
  simp only [modL, subF]
  rw [if_neg (by omega), if_neg (by omega)]
  rfl
theorem now_st {fr : Pt} {s : Sg} (d : Nat) (h2 : s.k = 3 ∨ s.k = 4) : (stI d [mvS fr, spA fr s, spB fr s] 3).2 = [⟨fr :: Cu.flat (d + 1) (cvOf fr s), false⟩] := by
  have e : stI d [mvS fr, spA fr s, spB fr s] 3 = stF d (stF d (stF d (⟨0, 0⟩, []) (mvS fr)) (spA fr s)) (spB fr s) := rfl
  rw [e]
  have e1 : stF d (⟨0, 0⟩, []) (mvS fr) = (fr, [⟨[fr], false⟩]) := rfl
  rw [e1]
  obtain ⟨k, a, b, c⟩ := s
  simp only at h2
  rcases h2 with rfl | rfl
  · simp only [stF, stepF, spA, spB, cvOf, cvS, Cu.Cv.fst, Cu.Cv.snd]
    simp [modL, subF, nxtP, need, ptJ, cvOf, Cu.flat, Cu.Cv.fst, Cu.Cv.snd]
  · simp only [stF, stepF, spA, spB, cvOf, cvS, Cu.Cv.fst, Cu.Cv.snd]
    simp [modL, subF, nxtP, need, ptJ, cvOf, Cu.flat, Cu.Cv.fst, Cu.Cv.snd]
end Go.Proofs.YtpleidpbapgmiaaDoor.Sy

/- Rows of subpaths in memory: the last one has more points, is closed; one comes more. Conditions: those that each theorem names. -/
namespace Go.Proofs.YtpleidpbapgmiaaDoor.Sy
open Go Go.Proofs
set_option linter.unusedSimpArgs false
set_option linter.unusedVariables false
set_option maxRecDepth 20000
attribute [local go_sem] XK_seq XK_block XK_skip XK_exit XK_ret XK_cond XK_reg XK_dreg XK_ureg KN_seq KN_blk KN_lp KN_chk KN_chku KN_top KN_fin KX_seq KX_lp KX_blk KX_chk KX_top KR_seq KR_blk KR_lp KR_chk KR_top KR_fin FK_true FK_false RK_nil RK_mv RK_pick RK_alloc RK_box RK_build RK_bslice RK_load1 RK_loadA RK_store RK_nilchk RK_bin RK_beq RK_eqv RK_eqnil RK_un RK_conv RK_mkfn RK_mkslice RK_slS RK_slA RK_fadr RK_fld RK_iadrA RK_iadrS RK_idxA RK_ext RK_lenC RK_cap RK_app RK_appz RK_pre RK_cpy RK_mn RK_mx RK_len RK_carry RK_clr carryR um0 um1 ThenK_some RK_guard GK_tt GK_ff GK_tf GK_ft GK_none QK_some RK_callQ RK_callZ RK_callT TK_some VK_clo RK_callV
  evalOp evO evOs upd_at unfrz_at putE_some putE_none boolOf_b boolOf_tup Option.map_some evRes pack_one pack_two pack_three pack_none List.getD_cons_zero List.getD_cons_succ getD_nil
  Option.some.injEq exists_eq_left' Reg.cs? fillC setL List.set_cons_zero List.set_cons_succ List.length_cons List.length_nil rd_upd rd_updn rdB wr List.drop_zero List.drop_succ_cons List.take_succ_cons List.take_zero List.getElem?_cons_zero List.getElem?_cons_succ
  ix Int.toNat_zero lenO_sl lenO_nil nadd na_eq na_eq' na_lt na_ee na_ll na_ne na_ne' na_tt
attribute [local go_sem] Reg.flat_one Reg.flat_agg Reg.flat_tup flats_nil flats_cons Cell.flat_sc Cell.flat_ptr List.all_cons List.all_nil disOk safeOk safeR decide_eq_true_eq decide_eq_false_iff_not
  List.map_cons List.map_nil List.cons_append List.nil_append List.append_nil evalOp.capsOf Bool.false_bne Bool.bne_false Bool.true_bne Bool.bne_true bne_self_eq_false beq_self_eq_true Bool.not_not Bool.false_and Bool.and_false Bool.true_or Bool.or_true beq_iff_eq eqCells
  Bool.true_beq Bool.false_beq Bool.not_eq_true' Bool.not_eq_eq_eq_not Bool.not_eq_false' and_false false_and frz_at idOf noId Option.isSome_some Bool.and_eq_true
attribute [local go_sem] wr_eq bV_add bV_sub bV_mul bV_eql bV_neq bV_lss bV_leq bV_gtr bV_geq bV_quo bV_rem bV_shr bV_shl uV_not uV_neg wrapU bits_and bits_or bits_xor IntKind.bits Nat.min_eq_left Nat.min_eq_right Nat.min_self
attribute [local go_sem] bne_iff_ne Int.cast_ofNat_Int Nat.zero_add Nat.add_zero and_self and_true true_and ne_eq not_false_eq_true not_true_eq_false decide_true decide_false Bool.false_eq_true Bool.not_true Bool.not_false Bool.true_and Bool.and_true Bool.or_false Bool.false_or Bool.and_self

abbrev encB (r : Cell × Bool) : List Cell := [r.1, .sc (.bool r.2)]
theorem cb2 (r : Cell × Bool) : (encB r).length = 2 := rfl
/-- A row of points of the call's own. -/
def OPd (base : Nat) (m : Mem) (n : Nat) (c : Cell) (l : List Pt) : Prop :=
  (c = .sc (.slice none 0 0) ∧ l = []) ∨ ∃ id cap, c = .sl id 0 l.length cap 2 ∧ base ≤ id ∧ id < n ∧ m id = some ⟨l.flatMap Pt.cs, true⟩ ∧ (cap = none ∨ cap = some l.length)
theorem OPd.lt {base : Nat} {m : Mem} {n : Nat} {c : Cell} {l : List Pt} (h : OPd base m n c l) {id : Nat} (hi : sid (.one c) = some id) : base ≤ id ∧ id < n := by
  rcases h with ⟨rfl, _⟩ | ⟨id', cap, rfl, h1, h2, _⟩
  · cases hi
  · simp only [sid, Option.some.injEq] at hi; omega
theorem OPd.keep {base : Nat} {m m' : Mem} {n n' : Nat} {c : Cell} {l : List Pt} (h : OPd base m n c l) (hn : n ≤ n') (hm : ∀ id, sid (.one c) = some id → m' id = m id) : OPd base m' n' c l := by
  rcases h with h | ⟨id', cap, rfl, h1, h2, h3, h4⟩
  · exact Or.inl h
  · exact Or.inr ⟨id', cap, rfl, h1, by omega, by rw [hm id' rfl]; exact h3, h4⟩
theorem OPd.rl {base : Nat} {m : Mem} {n : Nat} {c : Cell} {l : List Pt} (h : OPd base m n c l) : RPt m n (.one c) l := by
  rcases h with ⟨rfl, rfl⟩ | ⟨id, cap, rfl, h1, h2, h3, h4⟩
  · exact RL.nil
  · refine Or.inr ⟨id, 0, cap, rfl, h2, ?_⟩
    have hl := flatMap_len Pt.cs 2 cs2 l
    rw [rd_of h3]
    unfold rdB
    rw [if_pos (by rw [hl]; omega), List.drop_zero, ← hl, List.take_length]
/-- Points behind a row. -/
theorem K_appD {T : Nat → Option SFun} {base n0 n nx : Nat} {m0 m : Mem} {c0 : Cell} {x : Reg} {l xs : List Pt} {by' : Nat} {d : Option Nat} {os : List SOper} {e : Nat → Reg} {k : Kt}
    (ho : OPd base m0 n0 c0 l) (hn : n0 ≤ n) (hm : ∀ id, sid (.one c0) = some id → m id = m0 id) (hx : RPt m nx x xs) (hne : xs ≠ []) (hsm : l.length + xs.length ≤ 4294967296) (hbase : base ≤ n)
    (next : ∀ c m', OPd base m' (n + 1) c (l ++ xs) → (∀ id, id < n → sid (.one c0) ≠ some id → m' id = m id) → sid (.one c) = some n → RK T os (putE e d (.one c)) m' (n + 1) k) :
    ThenK T d os e k (evApp m n 2 by' (.one c0) x) := by
  have hpos : 0 < xs.length := List.length_pos_iff.2 hne
  have hnews : newsOf m 2 x = some (xs.length, xs.flatMap Pt.cs) := by
    rcases hx with ⟨rfl, rfl⟩ | ⟨ix, off, cap, rfl, _, h3⟩
    · exact absurd rfl hne
    · simp only [newsOf, if_true, h3, Option.map_some]
  have fin : ∀ m', m' n = some ⟨l.flatMap Pt.cs ++ xs.flatMap Pt.cs, true⟩ → OPd base m' (n + 1) (.sl n 0 (l.length + xs.length) none 2) (l ++ xs) := fun m' h => Or.inr ⟨n, none, by simp, hbase, by omega, by rw [h]; simp, Or.inl rfl⟩
  rcases ho with ⟨rfl, rfl⟩ | ⟨id, cap, rfl, h2, h3, h4, h7⟩
  · simp only [evApp, hnews]
    rw [if_neg (by omega), if_pos (by simp only [List.length_nil] at hsm; omega)]
    refine next (.sl n 0 xs.length none 2) _ (Or.inr ⟨n, none, by simp, hbase, by omega, by rw [upd_same]; simp, Or.inl rfl⟩) (fun i hi _ => upd_ne _ _ (by omega)) rfl
  · have h5 : m id = some ⟨l.flatMap Pt.cs, true⟩ := by rw [hm id rfl]; exact h4
    have hl := flatMap_len Pt.cs 2 cs2 l
    have h6 : rd m id 0 (l.length * 2) = some (l.flatMap Pt.cs) := by
      rw [rd_of h5]
      unfold rdB
      rw [if_pos (by rw [hl]; omega), List.drop_zero, ← hl, List.take_length]
    rcases h7 with rfl | rfl
    · simp only [evApp, hnews, if_true, h5, h6, Option.map_some, true_and, if_pos hsm]
      exact next _ _ (fin _ (upd_same _ _ _)) (fun i hi hs => by rw [upd_ne _ _ (by omega), upd_ne _ _ (fun e => hs (by rw [e]; rfl))]) rfl
    · simp only [evApp, hnews, true_and, if_pos hsm]
      rw [if_neg (by omega)]
      simp only [if_true, h6, Option.map_some]
      exact next _ _ (fin _ (upd_same _ _ _)) (fun i hi hs => upd_ne _ _ (by omega)) rfl
/-- A row of subpaths of the call's own. -/
def OSc (u base : Nat) (m : Mem) (n : Nat) (oc : Cell) (o : List Sb) : Prop :=
  ∃ cs : List Cell, cs.length = o.length ∧ OL encB 2 base m n (.one oc) (cs.zip (o.map Sb.c)) ∧ sid (.one oc) ≠ some u ∧
    ∀ (i : Nat) (c : Cell) (s : Sb), cs[i]? = some c → o[i]? = some s → OPd base m n c s.L ∧ ∀ j, sid (.one c) = some j → (sid (.one oc) ≠ some j ∧ j ≠ u) ∧ ∀ i' c', i' ≠ i → cs[i']? = some c' → sid (.one c') ≠ some j
theorem OSc.nil {u base : Nat} {m : Mem} {n : Nat} : OSc u base m n (.sc (.slice none 0 0)) [] := ⟨[], rfl, OL.nil, fun h => (by cases h), fun i c s h => by simp at h⟩
theorem OSc.lt {u base : Nat} {m : Mem} {n : Nat} {oc : Cell} {o : List Sb} (h : OSc u base m n oc o) {id : Nat} (hi : sid (.one oc) = some id) : base ≤ id ∧ id < n := by
  obtain ⟨cs, _, h1, _⟩ := h
  rcases h1 with ⟨e, _⟩ | ⟨id', e, h2, h3, _⟩
  · rw [e] at hi; cases hi
  · rw [e] at hi; simp only [sid, Option.some.injEq] at hi; omega
theorem OSc.re {u u' base : Nat} {m : Mem} {n : Nat} {oc : Cell} {o : List Sb} (h : OSc u base m n oc o) (hu : n ≤ u' ∨ u' < base) : OSc u' base m n oc o := by
  have hlt := fun {id : Nat} (hi : sid (.one oc) = some id) => h.lt hi
  obtain ⟨cs, h1, h2, _, h3⟩ := h
  refine ⟨cs, h1, h2, fun e => by have := hlt e; omega, fun i c s hc hs => ?_⟩
  obtain ⟨k1, k2⟩ := h3 i c s hc hs
  exact ⟨k1, fun j hj => ⟨⟨(k2 j hj).1.1, by have := k1.lt hj; omega⟩, (k2 j hj).2⟩⟩
theorem OSc.keep {u base : Nat} {m m' : Mem} {n n' : Nat} {oc : Cell} {o : List Sb} (h : OSc u base m n oc o) (hn : n ≤ n') (hm : ∀ id, base ≤ id → id < n → id ≠ u → m' id = m id) : OSc u base m' n' oc o := by
  obtain ⟨cs, h1, h2, hu, h3⟩ := h
  have o1 : OL encB 2 base m' n' (.one oc) (cs.zip (o.map Sb.c)) := by
    rcases h2 with h | ⟨id, e1, e2, e3, e4⟩
    · exact Or.inl h
    · exact Or.inr ⟨id, e1, e2, by omega, by rw [hm id e2 e3 (fun e => hu (by rw [e1, ← e]; rfl))]; exact e4⟩
  refine ⟨cs, h1, o1, hu, fun i c s hc hs => ?_⟩
  obtain ⟨k1, k2⟩ := h3 i c s hc hs
  exact ⟨k1.keep hn (fun id hid => hm id (k1.lt hid).1 (k1.lt hid).2 (k2 id hid).1.2), k2⟩
theorem OSc.base {u b b' : Nat} {m : Mem} {n : Nat} {oc : Cell} {o : List Sb} (h : OSc u b m n oc o) (hb : b' ≤ b) : OSc u b' m n oc o := by
  obtain ⟨cs, h1, h2, hu, h3⟩ := h
  refine ⟨cs, h1, h2.base hb, hu, fun i c s hc hs => ?_⟩
  obtain ⟨k1, k2⟩ := h3 i c s hc hs
  refine ⟨?_, k2⟩
  rcases k1 with h | ⟨id, cap, e1, e2, e3⟩
  · exact Or.inl h
  · exact Or.inr ⟨id, cap, e1, by omega, e3⟩
theorem zip_len {cs : List Cell} {o : List Sb} (h : cs.length = o.length) : (cs.zip (o.map Sb.c)).length = o.length := by
  rw [List.length_zip, List.length_map, h, Nat.min_self]
theorem OSc.len {u base : Nat} {m : Mem} {n : Nat} {oc : Cell} {o : List Sb} (h : OSc u base m n oc o) : lenO (.one oc) = some (o.length : Int) := by
  obtain ⟨cs, h1, h2, _, h3⟩ := h
  rw [(h2.rl cb2).len, zip_len h1]
/-- The subpath i. -/
theorem OSc.get {u base : Nat} {m : Mem} {n : Nat} {oc : Cell} {o : List Sb} (h : OSc u base m n oc o) {i : Nat} {s : Sb} (hs : o[i]? = some s) :
    ∃ (id : Nat) (c : Cell) (b : Blk), oc = .sl id 0 o.length none 2 ∧ id < n ∧ m id = some b ∧ b.cells[i * 2]? = some c ∧ b.cells[i * 2 + 1]? = some (.sc (.bool s.c)) ∧ RPt m n (.one c) s.L := by
  obtain ⟨cs, h1, h2, _, h3⟩ := h
  have hi : i < o.length := (List.getElem?_eq_some_iff.1 hs).1
  have hc : cs[i]? = some (cs[i]'(by omega)) := List.getElem?_eq_getElem (by omega)
  generalize cs[i]'(by omega) = c at *
  have hz : (cs.zip (o.map Sb.c))[i]? = some (c, s.c) := by
    rw [List.getElem?_zip_eq_some]
    exact ⟨hc, by rw [List.getElem?_map, hs]; rfl⟩
  obtain ⟨id, off, cap, e1, e2, e3⟩ := (h2.rl cb2).at cb2 hz
  have e0 : off = 0 ∧ cap = none := by
    rcases h2 with ⟨e, _⟩ | ⟨id', e, _⟩
    · rw [e] at e1; cases e1
    · rw [e] at e1
      injection e1 with e1
      injection e1 with a1 a2 a3 a4
      exact ⟨a2.symm, a4.symm⟩
  obtain ⟨rfl, rfl⟩ := e0
  obtain ⟨b, g1, g2⟩ := rd_cell e3 (a := 0) (c := c) rfl
  obtain ⟨b', g3, g4⟩ := rd_cell e3 (a := 1) (c := .sc (.bool s.c)) rfl
  rw [g1] at g3
  cases g3
  rw [Nat.zero_add, Nat.add_zero] at g2
  rw [Nat.zero_add] at g4
  injection e1 with e1
  rw [zip_len h1] at e1
  exact ⟨id, c, b, e1, e2, g1, g2, g4, (h3 i c s hc hs).1.rl⟩
/-- A subpath more. -/
theorem K_pushS {T : Nat → Option SFun} {u base n0 n j by' : Nat} {m0 m : Mem} {oc c : Cell} {L : List Pt} {b ow : Bool} {o : List Sb} {d : Option Nat} {os : List SOper} {e : Nat → Reg} {k : Kt}
    (h : OSc u base m0 n0 oc o) (hun : u ≠ n) (hn : n0 ≤ n) (hm : ∀ id, base ≤ id → id < n0 → id ≠ u → m id = m0 id) (hj : m j = some ⟨[c, .sc (.bool b)], ow⟩) (hc : OPd base m n c L) (hcs : ∀ i, sid (.one c) = some i → n0 ≤ i ∧ i ≠ u) (hsm : o.length + 1 ≤ 4294967296) (hbase : base ≤ n)
    (next : ∀ oc' m', OSc u base m' (n + 1) oc' (o ++ [⟨L, b⟩]) → (∀ id, id < n → sid (.one oc) ≠ some id → m' id = m id) → (∀ id, sid (.one oc') = some id → id = n) → RK T os (putE e d (.one oc')) m' (n + 1) k) :
    ThenK T d os e k (evApp m n 2 by' (.one oc) (.one (.sl j 0 1 (some 1) 2))) := by
  have hlt := fun {id : Nat} (hi : sid (.one oc) = some id) => h.lt hi
  obtain ⟨cs, h1, h2, hu, h3⟩ := h
  have h2' : OL encB 2 base m n (.one oc) (cs.zip (o.map Sb.c)) := by
    rcases h2 with h | ⟨id, e1, e2, e3, e4⟩
    · exact Or.inl h
    · exact Or.inr ⟨id, e1, e2, by omega, by rw [hm id e2 e3 (fun e => hu (by rw [e1, ← e]; rfl))]; exact e4⟩
  refine K_push2 (enc := encB) cb2 (by decide) (p := (c, b)) (o := ow) h2' (Nat.le_refl _) (fun _ _ _ => rfl) hj (by rw [zip_len h1]; exact hsm) hbase ?_
  intro oc' m' ho hf hs
  have hz : cs.zip (o.map Sb.c) ++ [(c, b)] = (cs ++ [c]).zip ((o ++ [Sb.mk L b]).map Sb.c) := by
    rw [List.map_append, List.zip_append (by rw [List.length_map]; exact h1)]
    rfl
  rw [hz] at ho
  refine next oc' m' ⟨cs ++ [c], by simp [h1], ho, fun e => hun (hs u e), fun i c2 s hc2 hs2 => ?_⟩ hf hs
  by_cases hi : i < cs.length
  · rw [List.getElem?_append_left hi] at hc2
    rw [List.getElem?_append_left (by omega)] at hs2
    obtain ⟨k1, k2⟩ := h3 i c2 s hc2 hs2
    refine ⟨k1.keep (by omega) (fun id hid => ?_), fun j' hj' => ⟨⟨fun e => ?_, (k2 j' hj').1.2⟩, fun i' c' hi' hc' => ?_⟩⟩
    · have := k1.lt hid
      rw [hf id (by omega) (k2 id hid).1.1, hm id this.1 this.2 (k2 id hid).1.2]
    · have := hs j' e
      have := k1.lt hj'
      omega
    · by_cases hi2 : i' < cs.length
      · rw [List.getElem?_append_left hi2] at hc'
        exact (k2 j' hj').2 i' c' hi' hc'
      · rw [List.getElem?_append_right (by omega)] at hc'
        obtain ⟨t, ht⟩ : ∃ t, i' - cs.length = t := ⟨_, rfl⟩
        rw [ht] at hc'
        cases t with
        | zero =>
          simp at hc'
          subst hc'
          intro e
          have := hcs j' e
          have := k1.lt hj'
          omega
        | succ t => simp at hc'
  · have he : i = cs.length := by
      have := (List.getElem?_eq_some_iff.1 hc2).1
      simp at this
      omega
    subst he
    rw [List.getElem?_append_right (Nat.le_refl _), Nat.sub_self] at hc2
    rw [h1, List.getElem?_append_right (Nat.le_refl _), Nat.sub_self] at hs2
    simp at hc2 hs2
    subst hc2 hs2
    refine ⟨hc.keep (by omega) (fun id hid => hf id (hc.lt hid).2 (fun e => ?_)), fun j' hj' => ⟨⟨fun e => ?_, (hcs j' hj').2⟩, fun i' c' hi' hc' => ?_⟩⟩
    · have := hcs id hid
      have := (hlt e).2
      omega
    · have := hs j' e
      have := (hc.lt hj').2
      omega
    · have hi2 : i' < cs.length := by
        have := (List.getElem?_eq_some_iff.1 hc').1
        simp at this
        omega
      rw [List.getElem?_append_left hi2] at hc'
      obtain ⟨k1, k2⟩ := h3 i' c' (o[i']'(by omega)) hc' (List.getElem?_eq_getElem (by omega))
      intro e
      have := (k1.lt e).2
      have := hcs j' hj'
      omega
/-- The last subpath, and what stands there when it is another one. -/
theorem OSc.last {u base : Nat} {m : Mem} {n : Nat} {oc : Cell} {o : List Sb} {s : Sb} (h : OSc u base m n oc (o ++ [s])) :
    ∃ (id : Nat) (cl : Cell) (R : List Cell), oc = .sl id 0 (o.length + 1) none 2 ∧ base ≤ id ∧ id < n ∧ R.length = o.length * 2 ∧ m id = some ⟨R ++ [cl, .sc (.bool s.c)], true⟩ ∧ OPd base m n cl s.L ∧ sid (.one cl) ≠ some id ∧ id ≠ u ∧ sid (.one cl) ≠ some u ∧
      ∀ (m' : Mem) (n' : Nat) (c' : Cell) (s' : Sb), n ≤ n' → m' id = some ⟨R ++ [c', .sc (.bool s'.c)], true⟩ → (∀ j, base ≤ j → j < n → j ≠ id → j ≠ u → (sid (.one cl) ≠ some j ∨ c' = cl) → m' j = m j) → OPd base m' n' c' s'.L →
        (c' = cl ∨ ∀ j, sid (.one c') = some j → n ≤ j ∧ j ≠ u) → OSc u base m' n' oc (o ++ [s']) := by
  obtain ⟨cs, h1, h2, hu, h3⟩ := h
  obtain ⟨ca, cl, rfl⟩ := snoc_of (o := cs) (fun e => by rw [e] at h1; simp at h1)
  have hla : ca.length = o.length := by simpa using h1
  have hz : ∀ (c : Cell) (x : Sb), (ca ++ [c]).zip ((o ++ [x]).map Sb.c) = ca.zip (o.map Sb.c) ++ [(c, x.c)] := fun c x => by
    rw [List.map_append, List.zip_append (by simp [hla])]
    rfl
  have hzl := zip_len hla
  rw [hz] at h2
  have h2' := h2.resolve_left (fun h => by simp at h)
  obtain ⟨id, e1, e2, e3, e4⟩ := h2'
  have hoc : oc = .sl id 0 (o.length + 1) none 2 := by
    injection e1 with e1
    rw [e1, List.length_append, hzl]
    rfl
  subst hoc
  rw [List.flatMap_append] at e4
  have hlast : (ca ++ [cl])[ca.length]? = some cl := by rw [List.getElem?_append_right (Nat.le_refl _), Nat.sub_self]; rfl
  have hlasts : (o ++ [s])[ca.length]? = some s := by rw [hla, List.getElem?_append_right (Nat.le_refl _), Nat.sub_self]; rfl
  obtain ⟨kl, kl2⟩ := h3 ca.length cl s hlast hlasts
  refine ⟨id, cl, (ca.zip (o.map Sb.c)).flatMap encB, rfl, e2, e3, by rw [flatMap_len encB 2 cb2, hzl], by rw [e4]; rfl, kl, fun e => (kl2 id e).1.1 rfl, fun e => hu (by rw [e1, e]; rfl), fun e => (kl2 u e).1.2 rfl, ?_⟩
  intro m' n' c' s' hn hid hf hx hs
  refine ⟨ca ++ [c'], by simp [hla], Or.inr ⟨id, by rw [hz, List.length_append, hzl]; rfl, e2, by omega, by rw [hid, hz, List.flatMap_append]; rfl⟩, hu, fun i c x hc hxs => ?_⟩
  by_cases hi : i < ca.length
  · rw [List.getElem?_append_left hi] at hc
    have hio : i < o.length := by omega
    rw [List.getElem?_append_left hio] at hxs
    obtain ⟨k1, k2⟩ := h3 i c x (by rw [List.getElem?_append_left hi]; exact hc) (by rw [List.getElem?_append_left hio]; exact hxs)
    refine ⟨k1.keep hn (fun j hj => hf j (k1.lt hj).1 (k1.lt hj).2 (fun e => (k2 j hj).1.1 (by rw [e]; rfl)) (k2 j hj).1.2 (Or.inl ((k2 j hj).2 ca.length cl (by omega) hlast))), fun j hj => ⟨(k2 j hj).1, fun i' c2 hi' hc2 => ?_⟩⟩
    by_cases hi2 : i' < ca.length
    · rw [List.getElem?_append_left hi2] at hc2
      exact (k2 j hj).2 i' c2 hi' (by rw [List.getElem?_append_left hi2]; exact hc2)
    · rw [List.getElem?_append_right (by omega)] at hc2
      obtain ⟨t, ht⟩ : ∃ t, i' - ca.length = t := ⟨_, rfl⟩
      rw [ht] at hc2
      cases t with
      | zero =>
        simp at hc2
        subst hc2
        rcases hs with e | hs
        · rw [e]; exact (k2 j hj).2 ca.length cl (by omega) hlast
        · intro e
          have := hs j e
          have := (k1.lt hj).2
          omega
      | succ t => simp at hc2
  · have he : i = ca.length := by
      have := (List.getElem?_eq_some_iff.1 hc).1
      simp at this
      omega
    subst he
    rw [List.getElem?_append_right (Nat.le_refl _), Nat.sub_self] at hc
    rw [hla, List.getElem?_append_right (Nat.le_refl _), Nat.sub_self] at hxs
    simp at hc hxs
    subst hc hxs
    refine ⟨hx, fun j hj => ⟨⟨fun e => ?_, ?_⟩, fun i' c2 hi' hc2 => ?_⟩⟩
    · rcases hs with e9 | hs
      · rw [e9] at hj
        exact (kl2 j hj).1.1 e
      · have := hs j hj
        simp only [sid, Option.some.injEq] at e
        omega
    · rcases hs with e9 | hs
      · rw [e9] at hj
        exact (kl2 j hj).1.2
      · exact (hs j hj).2
    · have hi2 : i' < ca.length := by
        have := (List.getElem?_eq_some_iff.1 hc2).1
        simp at this
        omega
      rw [List.getElem?_append_left hi2] at hc2
      rcases hs with e9 | hs
      · rw [e9] at hj
        exact (kl2 j hj).2 i' c2 hi' (by rw [List.getElem?_append_left hi2]; exact hc2)
      · obtain ⟨k1, k2⟩ := h3 i' c2 (o[i']'(by omega)) (by rw [List.getElem?_append_left hi2]; exact hc2) (by rw [List.getElem?_append_left (by omega)]; exact List.getElem?_eq_getElem (by omega))
        intro e
        have := (k1.lt e).2
        have := hs j hj
        omega

/- What path.Flat does with the last subpath. Conditions: those that each theorem names. -/
open Go Go.Proofs
set_option linter.unusedSimpArgs false
set_option linter.unusedVariables false

theorem one_pt {m : Mem} {n b : Nat} {p : Pt} {o : Bool} (hbn : b < n) (hb : m b = some ⟨p.cs, o⟩) : RPt m n (.one (.sl b 0 1 (some 1) 2)) [p] := by
  refine Or.inr ⟨b, 0, some 1, rfl, hbn, ?_⟩
  rw [rd_of hb]
  rfl
theorem pt_rp {m : Mem} {n : Nat} {r : Reg} {l : List Pt} (h : RPt m n r l) : Cu.RP m n r l := by
  rcases h with ⟨rfl, rfl⟩ | ⟨id, off, cap, h1, h2, h3⟩
  · exact Or.inl ⟨rfl, rfl, rfl⟩
  · exact Or.inr ⟨id, off, cap, h1, h2, h3⟩
theorem rp_pt {m : Mem} {n : Nat} {r : Reg} {l : List Pt} (h : Cu.RP m n r l) : RPt m n r l := by
  rcases h with ⟨rfl, h1, _⟩ | ⟨id, off, cap, h1, h2, h3⟩
  · exact Or.inl ⟨rfl, List.length_eq_zero_iff.1 h1⟩
  · exact Or.inr ⟨id, off, cap, h1, h2, h3⟩
section
variable {R : List Cell} {cl : Cell} {v : Cell} {k2 : Nat}
theorem C_at (hR : R.length = k2) : (R ++ [cl, v])[k2]? = some cl := by rw [List.getElem?_append_right (by omega), hR, Nat.sub_self]; rfl
theorem C_le (hR : R.length = k2) : (k2 + 1 ≤ (R ++ [cl, v]).length) = True := eq_true (by simp; omega)
theorem C_le1 (hR : R.length = k2) : (k2 + 1 + 1 ≤ (R ++ [cl, v]).length) = True := eq_true (by simp; omega)
theorem C_set (hR : R.length = k2) (c : Cell) : (R ++ [cl, v]).set k2 c = R ++ [c, v] := by rw [List.set_append_right _ _ (by omega), hR, Nat.sub_self]; rfl
theorem C_set1 (hR : R.length = k2) (c : Cell) : (R ++ [cl, v]).set (k2 + 1) c = R ++ [cl, c] := by rw [List.set_append_right _ _ (by omega), hR, show k2 + 1 - k2 = 1 by omega]; rfl
end
/-- A point behind the last subpath. -/
theorem flat_r14 {B n1 N sb id k2 : Nat} {M : Mem} {cl : Cell} {R : List Cell} {bb : Bool} {L : List Pt} {sg : Sg} {e : Nat → Reg} {K : Kt}
    (hid : M id = some ⟨R ++ [cl, .sc (.bool bb)], true⟩) (hR : R.length = k2) (hcl : OPd B M n1 cl L) (hn : n1 ≤ N) (hidN : id < N) (hne : sid (.one cl) ≠ some id) (hsb : M sb = some ⟨sg.cs, true⟩) (hsN : sb < N)
    (q9 : e 9 = .one (.ptr sb 0)) (q10 : e 10 = .one (.ptr id k2)) (hL : L.length + 1 ≤ 4294967296) (hB : B ≤ N)
    (next : ∀ e' M' N' c', N ≤ N' → OPd B M' N' c' (L ++ [sg.a]) → (∀ j, sid (.one c') = some j → N ≤ j) → M' id = some ⟨R ++ [c', .sc (.bool bb)], true⟩ → (∀ j, j < N → j ≠ id → sid (.one cl) ≠ some j → M' j = M j) → e' 3 = e 3 → e' 7 = e 7 → KN TA K ⟨e', M', N'⟩) :
    RK TA r10_14 e M N K := by
  have hat := C_at (cl := cl) (v := .sc (.bool bb)) hR
  have hle := C_le (cl := cl) (v := .sc (.bool bb)) hR
  have hset := fun c => C_set (cl := cl) (v := .sc (.bool bb)) hR c
  generalize hC : R ++ [cl, .sc (.bool bb)] = C at *
  have hpt : rd M sb 1 2 = some [I sg.a.x, I sg.a.y] := by rw [rd_of hsb]; rfl
  try simp only [r10_14, q9, q10, hid, hat, hpt, Nat.zero_mul, go_sem, Int.reduceTMod, Int.reduceTDiv, Int.reduceDiv, Int.reduceMod, Int.reduceAdd, Int.reduceSub, Int.reduceMul, Int.reduceNeg, Int.reducePow, Int.reduceEq, ↓reduceIte, Nat.reduceEqDiff, Nat.reduceAdd, Nat.reduceMul, Nat.reduceLeDiff, Nat.reduceSub, Nat.reduceLT, Int.reduceToNat, Int.reduceLT, Int.reduceLE, reduceCtorEq]
  repeat' ((first | refine FK_split (fun h_ => ?_) (fun h_ => ?_) | refine GK_split (fun h_ => ?_) (fun h_ => ?_) | refine ite_both (fun h_ => ?_) (fun h_ => ?_)) <;> (try simp only [decide_eq_true_eq, decide_eq_false_iff_not, Bool.not_true, Bool.not_false, Bool.not_eq_true', Bool.not_eq_false', Bool.not_eq_eq_eq_not, Decidable.not_not] at h_) <;> (try simp only [r10_14, q9, q10, hid, hat, hpt, Nat.zero_mul, h_, go_sem, Int.reduceTMod, Int.reduceTDiv, Int.reduceDiv, Int.reduceMod, Int.reduceAdd, Int.reduceSub, Int.reduceMul, Int.reduceNeg, Int.reducePow, Int.reduceEq, ↓reduceIte, Nat.reduceEqDiff, Nat.reduceAdd, Nat.reduceMul, Nat.reduceLeDiff, Nat.reduceSub, Nat.reduceLT, Int.reduceToNat, Int.reduceLT, Int.reduceLE, reduceCtorEq]))
  refine K_appD (xs := [sg.a]) (nx := N + 1) hcl (by omega) (fun j hj => by have := hcl.lt hj; exact upd_ne _ _ (by omega)) (one_pt (o := true) (by omega) (upd_same _ _ _)) (by simp) (by simpa using hL) (by omega) ?_
  intro c' M' ho hf hs
  have hid' : M' id = some ⟨C, true⟩ := by rw [hf id (by omega) hne, upd_ne _ _ (by omega)]; exact hid
  try simp only [r10_14, q10, hid', hle, hset, go_sem, Int.reduceTMod, Int.reduceTDiv, Int.reduceDiv, Int.reduceMod, Int.reduceAdd, Int.reduceSub, Int.reduceMul, Int.reduceNeg, Int.reducePow, Int.reduceEq, ↓reduceIte, Nat.reduceEqDiff, Nat.reduceAdd, Nat.reduceMul, Nat.reduceLeDiff, Nat.reduceSub, Nat.reduceLT, Int.reduceToNat, Int.reduceLT, Int.reduceLE, reduceCtorEq]
  repeat' ((first | refine FK_split (fun h_ => ?_) (fun h_ => ?_) | refine GK_split (fun h_ => ?_) (fun h_ => ?_) | refine ite_both (fun h_ => ?_) (fun h_ => ?_)) <;> (try simp only [decide_eq_true_eq, decide_eq_false_iff_not, Bool.not_true, Bool.not_false, Bool.not_eq_true', Bool.not_eq_false', Bool.not_eq_eq_eq_not, Decidable.not_not] at h_) <;> (try simp only [r10_14, q10, hid', hle, hset, h_, go_sem, Int.reduceTMod, Int.reduceTDiv, Int.reduceDiv, Int.reduceMod, Int.reduceAdd, Int.reduceSub, Int.reduceMul, Int.reduceNeg, Int.reducePow, Int.reduceEq, ↓reduceIte, Nat.reduceEqDiff, Nat.reduceAdd, Nat.reduceMul, Nat.reduceLeDiff, Nat.reduceSub, Nat.reduceLT, Int.reduceToNat, Int.reduceLT, Int.reduceLE, reduceCtorEq]))
  refine next _ _ _ c' (by omega) (ho.keep (Nat.le_refl _) (fun j hj => ?_)) (fun j hj => ?_) (upd_same _ _ _) (fun j h1 h2 h3 => ?_) ?_ ?_
  · rw [hs] at hj
    simp only [Option.some.injEq] at hj
    exact upd_ne _ _ (by omega)
  · rw [hs] at hj
    simp only [Option.some.injEq] at hj
    omega
  · rw [upd_ne _ _ h2, hf j (by omega) h3, upd_ne _ _ (by omega)]
  · simp only [go_sem, Int.reduceTMod, Int.reduceTDiv, Int.reduceDiv, Int.reduceMod, Int.reduceAdd, Int.reduceSub, Int.reduceMul, Int.reduceNeg, Int.reducePow, Int.reduceEq, ↓reduceIte, Nat.reduceEqDiff, Nat.reduceAdd, Nat.reduceMul, Nat.reduceLeDiff, Nat.reduceSub, Nat.reduceLT, Int.reduceToNat, Int.reduceLT, Int.reduceLE, reduceCtorEq]
  · simp only [go_sem, Int.reduceTMod, Int.reduceTDiv, Int.reduceDiv, Int.reduceMod, Int.reduceAdd, Int.reduceSub, Int.reduceMul, Int.reduceNeg, Int.reducePow, Int.reduceEq, ↓reduceIte, Nat.reduceEqDiff, Nat.reduceAdd, Nat.reduceMul, Nat.reduceLeDiff, Nat.reduceSub, Nat.reduceLT, Int.reduceToNat, Int.reduceLT, Int.reduceLE, reduceCtorEq]
/-- The last subpath is closed. -/
theorem flat_r16 {N id k2 : Nat} {M : Mem} {cl : Cell} {R : List Cell} {bb : Bool} {e : Nat → Reg} {K : Kt}
    (hid : M id = some ⟨R ++ [cl, .sc (.bool bb)], true⟩) (hR : R.length = k2) (q10 : e 10 = .one (.ptr id k2))
    (next : ∀ e' M', M' id = some ⟨R ++ [cl, .sc (.bool true)], true⟩ → (∀ j, j ≠ id → M' j = M j) → e' 3 = e 3 → e' 7 = e 7 → KN TA K ⟨e', M', N⟩) :
    RK TA r10_16 e M N K := by
  have hle := C_le1 (cl := cl) (v := .sc (.bool bb)) hR
  have hset := fun c => C_set1 (cl := cl) (v := .sc (.bool bb)) hR c
  generalize hC : R ++ [cl, .sc (.bool bb)] = C at *
  try simp only [r10_16, q10, hid, hle, hset, go_sem, Int.reduceTMod, Int.reduceTDiv, Int.reduceDiv, Int.reduceMod, Int.reduceAdd, Int.reduceSub, Int.reduceMul, Int.reduceNeg, Int.reducePow, Int.reduceEq, ↓reduceIte, Nat.reduceEqDiff, Nat.reduceAdd, Nat.reduceMul, Nat.reduceLeDiff, Nat.reduceSub, Nat.reduceLT, Int.reduceToNat, Int.reduceLT, Int.reduceLE, reduceCtorEq]
  repeat' ((first | refine FK_split (fun h_ => ?_) (fun h_ => ?_) | refine GK_split (fun h_ => ?_) (fun h_ => ?_) | refine ite_both (fun h_ => ?_) (fun h_ => ?_)) <;> (try simp only [decide_eq_true_eq, decide_eq_false_iff_not, Bool.not_true, Bool.not_false, Bool.not_eq_true', Bool.not_eq_false', Bool.not_eq_eq_eq_not, Decidable.not_not] at h_) <;> (try simp only [r10_16, q10, hid, hle, hset, h_, go_sem, Int.reduceTMod, Int.reduceTDiv, Int.reduceDiv, Int.reduceMod, Int.reduceAdd, Int.reduceSub, Int.reduceMul, Int.reduceNeg, Int.reducePow, Int.reduceEq, ↓reduceIte, Nat.reduceEqDiff, Nat.reduceAdd, Nat.reduceMul, Nat.reduceLeDiff, Nat.reduceSub, Nat.reduceLT, Int.reduceToNat, Int.reduceLT, Int.reduceLE, reduceCtorEq]))
  refine next _ _ (upd_same _ _ _) (fun j h => upd_ne _ _ h) ?_ ?_
  · simp only [go_sem, Int.reduceTMod, Int.reduceTDiv, Int.reduceDiv, Int.reduceMod, Int.reduceAdd, Int.reduceSub, Int.reduceMul, Int.reduceNeg, Int.reducePow, Int.reduceEq, ↓reduceIte, Nat.reduceEqDiff, Nat.reduceAdd, Nat.reduceMul, Nat.reduceLeDiff, Nat.reduceSub, Nat.reduceLT, Int.reduceToNat, Int.reduceLT, Int.reduceLE, reduceCtorEq]
  · simp only [go_sem, Int.reduceTMod, Int.reduceTDiv, Int.reduceDiv, Int.reduceMod, Int.reduceAdd, Int.reduceSub, Int.reduceMul, Int.reduceNeg, Int.reducePow, Int.reduceEq, ↓reduceIte, Nat.reduceEqDiff, Nat.reduceAdd, Nat.reduceMul, Nat.reduceLeDiff, Nat.reduceSub, Nat.reduceLT, Int.reduceToNat, Int.reduceLT, Int.reduceLE, reduceCtorEq]
theorem cv_pts {fr : Pt} {sg : Sg} (h : sg.k = 3 ∨ sg.k = 4) : (cvOf fr sg).pts = fr :: sg.pts.take (need sg.k).toNat := by
  obtain ⟨k, a, b, c⟩ := sg
  simp only at h
  rcases h with rfl | rfl <;> rfl
theorem cv_in {fr : Pt} {sg : Sg} (h : sg.k = 3 ∨ sg.k = 4) (h1 : inP fr = true) (h2 : (sg.pts.take (need sg.k).toNat).all inP = true) : (cvOf fr sg).inP = true := by
  have e : (cvOf fr sg).pts.all inP = (cvOf fr sg).inP := by cases cvOf fr sg <;> simp [Cu.Cv.pts, Cu.Cv.inP, Bool.and_assoc]
  rw [← e, cv_pts h, List.all_cons, h1, h2]
  rfl
/-- A curve behind the last subpath. -/
theorem flat_r19 {B n1 N sb fb dx id k2 d : Nat} {M : Mem} {cl : Cell} {R : List Cell} {bb : Bool} {L : List Pt} {sg : Sg} {fr : Pt} {ow : Bool} {e : Nat → Reg} {K : Kt}
    (hk : sg.k = 3 ∨ sg.k = 4) (hd : d ≤ 6) (hfr : inP fr = true) (hin : (sg.pts.take (need sg.k).toNat).all inP = true) (hz : M 0 = some ⟨needC, ow⟩) (hdx : M dx = some ⟨[I d], true⟩) (hdN : dx < N) (hfb : M fb = some ⟨fr.cs, true⟩) (q3 : e 3 = .one (.ptr dx 0)) (q8 : e 8 = .one (.ptr fb 0))
    (hid : M id = some ⟨R ++ [cl, .sc (.bool bb)], true⟩) (hR : R.length = k2) (hcl : OPd B M n1 cl L) (hn : n1 ≤ N) (hidN : id < N) (hne : sid (.one cl) ≠ some id) (hsb : M sb = some ⟨sg.cs, true⟩) (hsN : sb < N)
    (q9 : e 9 = .one (.ptr sb 0)) (q10 : e 10 = .one (.ptr id k2)) (hL : L.length + 64 ≤ 4294967296) (hB : B ≤ N) (hN0 : 0 < N)
    (next : ∀ e' M' N' c', N ≤ N' → OPd B M' N' c' (L ++ Cu.flat d (cvOf fr sg)) → (∀ j, sid (.one c') = some j → N ≤ j) → M' id = some ⟨R ++ [c', .sc (.bool bb)], true⟩ → (∀ j, j < N → j ≠ id → sid (.one cl) ≠ some j → M' j = M j) → e' 3 = e 3 → e' 7 = e 7 → KN TA K ⟨e', M', N'⟩) :
    XK TA (.preg 2 35 [(.t 9)] [(3, 64)] r10_19) ⟨e, M, N⟩ (.seq (.reg r10_20) K) := by
  have hat := C_at (cl := cl) (v := .sc (.bool bb)) hR
  have hle := C_le (cl := cl) (v := .sc (.bool bb)) hR
  have hset := fun c => C_set (cl := cl) (v := .sc (.bool bb)) hR c
  generalize hC : R ++ [cl, .sc (.bool bb)] = C at *
  have hnb := need_bd sg.k
  refine XK_preg ?_
  have hzf : frz M 0 = some ⟨needC, false⟩ := by rw [frz_at, hz]; rfl
  have hsf : frz M sb = some ⟨sg.cs, false⟩ := by rw [frz_at, hsb]; rfl
  show Fn TA _ [e 9] (frz M) N _
  rw [q9]
  refine (w_points (off := 0) (k := sg.k) (o := false) hzf hsf rfl (by simp)).mono ?_
  rintro r1 m1 n9 ⟨rfl, _, e9⟩
  refine ⟨Or.inr e9, ?_⟩
  have hxs : ∀ M' : Mem, M' sb = some ⟨sg.cs, true⟩ → RPt M' (N + 1) (.one (.sl sb (0 + 1) (need sg.k).toNat (some 3) 2)) (sg.pts.take (need sg.k).toNat) := fun M' h => by
    have hl : (sg.pts.take (need sg.k).toNat).length = (need sg.k).toNat := by rw [List.length_take]; have : sg.pts.length = 3 := rfl; omega
    refine Or.inr ⟨sb, 0 + 1, some 3, by rw [hl], by omega, ?_⟩
    rw [hl, rd_of h]
    obtain ⟨k, a, b, c⟩ := sg
    simp only at hk
    rcases hk with rfl | rfl <;> rfl
  try simp only [r10_19, setOp, List.set_cons_succ, List.set_cons_zero, q8, hfb, rd_of hfb, go_sem, Int.reduceTMod, Int.reduceTDiv, Int.reduceDiv, Int.reduceMod, Int.reduceAdd, Int.reduceSub, Int.reduceMul, Int.reduceNeg, Int.reducePow, Int.reduceEq, ↓reduceIte, Nat.reduceEqDiff, Nat.reduceAdd, Nat.reduceMul, Nat.reduceLeDiff, Nat.reduceSub, Nat.reduceLT, Int.reduceToNat, Int.reduceLT, Int.reduceLE, reduceCtorEq]
  repeat' ((first | refine FK_split (fun h_ => ?_) (fun h_ => ?_) | refine GK_split (fun h_ => ?_) (fun h_ => ?_) | refine ite_both (fun h_ => ?_) (fun h_ => ?_)) <;> (try simp only [decide_eq_true_eq, decide_eq_false_iff_not, Bool.not_true, Bool.not_false, Bool.not_eq_true', Bool.not_eq_false', Bool.not_eq_eq_eq_not, Decidable.not_not] at h_) <;> (try simp only [r10_19, setOp, List.set_cons_succ, List.set_cons_zero, q8, hfb, rd_of hfb, h_, go_sem, Int.reduceTMod, Int.reduceTDiv, Int.reduceDiv, Int.reduceMod, Int.reduceAdd, Int.reduceSub, Int.reduceMul, Int.reduceNeg, Int.reducePow, Int.reduceEq, ↓reduceIte, Nat.reduceEqDiff, Nat.reduceAdd, Nat.reduceMul, Nat.reduceLeDiff, Nat.reduceSub, Nat.reduceLT, Int.reduceToNat, Int.reduceLT, Int.reduceLE, reduceCtorEq]))
  refine K_appD (xs := sg.pts.take (need sg.k).toNat) (nx := N + 1) (l := [fr]) (n0 := N + 1) (base := N) (m0 := upd M N (some ⟨fr.cs, true⟩)) (Or.inr ⟨N, some 1, rfl, Nat.le_refl _, Nat.lt_succ_self _, upd_same _ _ _, Or.inr rfl⟩) (Nat.le_refl _) (fun _ _ => rfl)
    (hxs _ (by rw [upd_ne _ _ (by omega)]; exact hsb)) ?_ ?_ (by omega) ?_
  · obtain ⟨k, a, b, c⟩ := sg
    simp only at hk
    rcases hk with rfl | rfl <;> exact List.cons_ne_nil _ _
  · rw [List.length_take]
    have : sg.pts.length = 3 := rfl
    simp only [List.length_cons, List.length_nil]
    omega
  intro c' M1 ho hf hs
  rw [List.singleton_append, ← cv_pts hk] at ho
  have hdx1 : M1 dx = some ⟨[I d], true⟩ := by
    rw [hf dx (by omega) (by simp only [sid, ne_eq, Option.some.injEq]; omega), upd_ne _ _ (by omega)]
    exact hdx
  have hsN : ∀ j, j < N → M1 j = M j := fun j hj => by rw [hf j (by omega) (by simp only [sid, ne_eq, Option.some.injEq]; omega), upd_ne _ _ (by omega)]
  try simp only [q3, hdx1, go_sem, Int.reduceTMod, Int.reduceTDiv, Int.reduceDiv, Int.reduceMod, Int.reduceAdd, Int.reduceSub, Int.reduceMul, Int.reduceNeg, Int.reducePow, Int.reduceEq, ↓reduceIte, Nat.reduceEqDiff, Nat.reduceAdd, Nat.reduceMul, Nat.reduceLeDiff, Nat.reduceSub, Nat.reduceLT, Int.reduceToNat, Int.reduceLT, Int.reduceLE, reduceCtorEq]
  repeat' ((first | refine FK_split (fun h_ => ?_) (fun h_ => ?_) | refine GK_split (fun h_ => ?_) (fun h_ => ?_) | refine ite_both (fun h_ => ?_) (fun h_ => ?_)) <;> (try simp only [decide_eq_true_eq, decide_eq_false_iff_not, Bool.not_true, Bool.not_false, Bool.not_eq_true', Bool.not_eq_false', Bool.not_eq_eq_eq_not, Decidable.not_not] at h_) <;> (try simp only [q3, hdx1, h_, go_sem, Int.reduceTMod, Int.reduceTDiv, Int.reduceDiv, Int.reduceMod, Int.reduceAdd, Int.reduceSub, Int.reduceMul, Int.reduceNeg, Int.reducePow, Int.reduceEq, ↓reduceIte, Nat.reduceEqDiff, Nat.reduceAdd, Nat.reduceMul, Nat.reduceLeDiff, Nat.reduceSub, Nat.reduceLT, Int.reduceToNat, Int.reduceLT, Int.reduceLE, reduceCtorEq]))
  refine RK_callk ?_
  show Fn TA _ [.one c', RI d] (frz M1) (N + 2) _
  refine (Cu.Flat38 (cvOf fr sg) (.one c') d (frz M1) (N + 2) (pt_rp ho.rl.frz) (cv_in hk hfr hin) hd).mono ?_
  rintro _ m2 n2 ⟨rs, rfl, hn2, _, hOw⟩
  rw [show max (N + 2) n2 = n2 by omega]
  have hrs : RPt (unfrz M1 (N + 2) m2) n2 rs (Cu.flat d (cvOf fr sg)) := (rp_pt hOw.rd).nw (fun j hj => (hOw.lt hj).1)
  have hk2 : ∀ j, j < N → unfrz M1 (N + 2) m2 j = M j := fun j hj => by rw [unfrz_at, if_pos (by omega)]; exact hsN j hj
  generalize unfrz M1 (N + 2) m2 = M2 at *
  have hid2 : M2 id = some ⟨C, true⟩ := by rw [hk2 id hidN]; exact hid
  have hxN := na_0 hdN
  have hfl := Cu.flat_length d (cvOf fr sg)
  have hpw : (2 : Nat) ^ d ≤ 64 := by
    have : (2 : Nat) ^ d ≤ 2 ^ 6 := Nat.pow_le_pow_right (by omega) hd
    omega
  have hp0 : 0 < (2 : Nat) ^ d := Nat.two_pow_pos d
  try simp only [r10_20, q3, q10, hxN, hid2, hat, go_sem, Int.reduceTMod, Int.reduceTDiv, Int.reduceDiv, Int.reduceMod, Int.reduceAdd, Int.reduceSub, Int.reduceMul, Int.reduceNeg, Int.reducePow, Int.reduceEq, ↓reduceIte, Nat.reduceEqDiff, Nat.reduceAdd, Nat.reduceMul, Nat.reduceLeDiff, Nat.reduceSub, Nat.reduceLT, Int.reduceToNat, Int.reduceLT, Int.reduceLE, reduceCtorEq]
  repeat' ((first | refine FK_split (fun h_ => ?_) (fun h_ => ?_) | refine GK_split (fun h_ => ?_) (fun h_ => ?_) | refine ite_both (fun h_ => ?_) (fun h_ => ?_)) <;> (try simp only [decide_eq_true_eq, decide_eq_false_iff_not, Bool.not_true, Bool.not_false, Bool.not_eq_true', Bool.not_eq_false', Bool.not_eq_eq_eq_not, Decidable.not_not] at h_) <;> (try simp only [r10_20, q3, q10, hxN, hid2, hat, h_, go_sem, Int.reduceTMod, Int.reduceTDiv, Int.reduceDiv, Int.reduceMod, Int.reduceAdd, Int.reduceSub, Int.reduceMul, Int.reduceNeg, Int.reducePow, Int.reduceEq, ↓reduceIte, Nat.reduceEqDiff, Nat.reduceAdd, Nat.reduceMul, Nat.reduceLeDiff, Nat.reduceSub, Nat.reduceLT, Int.reduceToNat, Int.reduceLT, Int.reduceLE, reduceCtorEq]))
  refine K_appD (xs := Cu.flat d (cvOf fr sg)) (nx := n2) hcl (by omega) (fun j hj => hk2 j (by have := hcl.lt hj; omega)) hrs (fun h => by rw [h] at hfl; simp at hfl; omega) (by omega) (by omega) ?_
  intro c2 M3 ho3 hf3 hs3
  have hid3 : M3 id = some ⟨C, true⟩ := by rw [hf3 id (by omega) hne]; exact hid2
  try simp only [r10_20, q10, hid3, hle, hset, go_sem, Int.reduceTMod, Int.reduceTDiv, Int.reduceDiv, Int.reduceMod, Int.reduceAdd, Int.reduceSub, Int.reduceMul, Int.reduceNeg, Int.reducePow, Int.reduceEq, ↓reduceIte, Nat.reduceEqDiff, Nat.reduceAdd, Nat.reduceMul, Nat.reduceLeDiff, Nat.reduceSub, Nat.reduceLT, Int.reduceToNat, Int.reduceLT, Int.reduceLE, reduceCtorEq]
  repeat' ((first | refine FK_split (fun h_ => ?_) (fun h_ => ?_) | refine GK_split (fun h_ => ?_) (fun h_ => ?_) | refine ite_both (fun h_ => ?_) (fun h_ => ?_)) <;> (try simp only [decide_eq_true_eq, decide_eq_false_iff_not, Bool.not_true, Bool.not_false, Bool.not_eq_true', Bool.not_eq_false', Bool.not_eq_eq_eq_not, Decidable.not_not] at h_) <;> (try simp only [r10_20, q10, hid3, hle, hset, h_, go_sem, Int.reduceTMod, Int.reduceTDiv, Int.reduceDiv, Int.reduceMod, Int.reduceAdd, Int.reduceSub, Int.reduceMul, Int.reduceNeg, Int.reducePow, Int.reduceEq, ↓reduceIte, Nat.reduceEqDiff, Nat.reduceAdd, Nat.reduceMul, Nat.reduceLeDiff, Nat.reduceSub, Nat.reduceLT, Int.reduceToNat, Int.reduceLT, Int.reduceLE, reduceCtorEq]))
  refine next _ _ _ c2 (by omega) (ho3.keep (Nat.le_refl _) (fun j hj => ?_)) (fun j hj => ?_) (upd_same _ _ _) (fun j h1 h2 h3 => ?_) ?_ ?_
  · rw [hs3] at hj
    simp only [Option.some.injEq] at hj
    exact upd_ne _ _ (by omega)
  · rw [hs3] at hj
    simp only [Option.some.injEq] at hj
    omega
  · rw [upd_ne _ _ h2, hf3 j (by omega) h3, hk2 j h1]
  · simp only [go_sem, Int.reduceTMod, Int.reduceTDiv, Int.reduceDiv, Int.reduceMod, Int.reduceAdd, Int.reduceSub, Int.reduceMul, Int.reduceNeg, Int.reducePow, Int.reduceEq, ↓reduceIte, Nat.reduceEqDiff, Nat.reduceAdd, Nat.reduceMul, Nat.reduceLeDiff, Nat.reduceSub, Nat.reduceLT, Int.reduceToNat, Int.reduceLT, Int.reduceLE, reduceCtorEq]
  · simp only [go_sem, Int.reduceTMod, Int.reduceTDiv, Int.reduceDiv, Int.reduceMod, Int.reduceAdd, Int.reduceSub, Int.reduceMul, Int.reduceNeg, Int.reducePow, Int.reduceEq, ↓reduceIte, Nat.reduceEqDiff, Nat.reduceAdd, Nat.reduceMul, Nat.reduceLeDiff, Nat.reduceSub, Nat.reduceLT, Int.reduceToNat, Int.reduceLT, Int.reduceLE, reduceCtorEq]

/- path.Flat walked. Conditions: those that each theorem names. -/
open Go Go.Proofs
set_option linter.unusedSimpArgs false
set_option linter.unusedVariables false

set_option maxHeartbeats 4000000 in
theorem flat_round {B u dx bx d : Nat} {M : Mem} {oc : Cell} {o : List Sb} {fr : Pt} {sg : Sg} {ow : Bool} {e : Nat → Reg} {Q : Ex → St → Prop}
    (hd : d ≤ 6) (hk1 : 1 ≤ sg.k) (hk5 : sg.k ≤ 5) (hin : (sg.pts.take (need sg.k).toNat).all inP = true) (hopen : sg.k ≠ 1 → o ≠ []) (hfr : sg.k ≠ 1 → inP fr = true) (hlen : o.length < 1000000) (hL : ∀ x ∈ o, x.L.length + 64 ≤ 4294967296)
    (hO : OSc u B M u oc o) (hB : B ≤ u) (hsg : M u = some ⟨sg.cs, true⟩) (hdx : M dx = some ⟨[I d], true⟩) (hdB : dx < B) (hbx : M bx = some ⟨[oc], true⟩) (hbB : bx < B) (hdb : dx ≠ bx) (hz : M 0 = some ⟨needC, ow⟩) (hb0 : 0 < bx)
    (q3 : e 3 = .one (.ptr dx 0)) (q7 : e 7 = .one (.ptr bx 0)) (q26 : e 26 = .agg fr.cs) (q27 : e 27 = .agg sg.cs)
    (next : ∀ e' M' N' oc', u + 1 ≤ N' → M' bx = some ⟨[oc'], true⟩ → OSc u B M' N' oc' (stepF d fr sg o) → (∀ j, j < B → j ≠ bx → M' j = M j) → M' u = M u → Q .n ⟨e', M', N'⟩) :
    XK TA (.seq wa10 wb10) ⟨e, M, u + 1⟩ (.top Q) := by
  have rest : ∀ (e2 : Nat → Reg) (M2 : Mem) (N2 n2 : Nat) (oc2 : Cell) (o1 : List Sb) (x : Sb), OSc u B M2 n2 oc2 (o1 ++ [x]) → n2 ≤ N2 → u + 3 ≤ N2 → M2 bx = some ⟨[oc2], true⟩ → e2 3 = .one (.ptr dx 0) → e2 7 = .one (.ptr bx 0) → e2 8 = .one (.ptr (u + 1) 0) → e2 9 = .one (.ptr (u + 2) 0) →
      (∀ j, j < B → j ≠ bx → M2 j = M j) → M2 u = M u → M2 (u + 1) = some ⟨fr.cs, true⟩ → M2 (u + 2) = some ⟨sg.cs, true⟩ → x.L.length + 64 ≤ 4294967296 → o1.length < 1000000 → (if sg.k = 1 then o1 ++ [⟨x.L ++ [sg.a], x.c⟩] else o1 ++ [subF d fr sg x]) = stepF d fr sg o →
      RK TA r10_12 e2 M2 N2 (.seq (.seq (.reg r10_13) (.block 2 (.seq (.reg r10_15) (.cond (.t 54) (.reg r10_16) (.seq (.seq (.reg r10_17) (.cond (.t 59) .skip (.reg r10_18))) (.cond (.t 59) (.seq (.preg 2 35 [(.t 9)] [(3, 64)] r10_19) (.reg r10_20)) (.reg r10_14))))))) (.blk 1 (.top Q))) := by
    intro e2 M2 N2 n2 oc2 o1 x hO2 hn2 hN2 hbx2 p3 p7 p8 p9 hf2 hu2 hfr2 hsb2 hxL ho1 hfin
    obtain ⟨id, cl, R, rfl, i1, i2, hR, hid, hcl, hne, hidu, hclu, reb⟩ := hO2.last
    have w1 : IntKind.i64.wrap (((o1.length + 1 : Nat) : Int) - 1) = (o1.length : Int) := (wr_eq (by omega) (by omega)).trans (by omega)
    have c2 : ((o1.length : Int) < ((o1.length + 1 : Nat) : Int)) = True := eq_true (by omega)
    have c3 : (0 ≤ (o1.length : Int)) = True := eq_true (by omega)
    have hz2 : M2 0 = some ⟨needC, ow⟩ := by rw [hf2 0 (by omega) (by omega)]; exact hz
    have hdx2 : M2 dx = some ⟨[I d], true⟩ := by rw [hf2 dx hdB hdb]; exact hdx
    have hclN : ∀ j, sid (.one cl) = some j → B ≤ j ∧ j < n2 := fun j hj => hcl.lt hj
    -- what is left when points have come
    have done : ∀ (e' : Nat → Reg) (M' : Mem) (N' : Nat) (c' : Cell) (L' : List Pt), N2 ≤ N' → OPd B M' N' c' L' → (∀ j, sid (.one c') = some j → N2 ≤ j) → M' id = some ⟨R ++ [c', .sc (.bool x.c)], true⟩ → (∀ j, j < N2 → j ≠ id → sid (.one cl) ≠ some j → M' j = M2 j) → o1 ++ [⟨L', x.c⟩] = stepF d fr sg o → Q .n ⟨e', M', N'⟩ := by
      intro e' M' N' c' L' h1 h2 h3 h4 h5 h6
      refine next e' M' N' (.sl id 0 (o1.length + 1) none 2) (by omega) ?_ ?_ (fun j hj hjb => ?_) ?_
      · rw [h5 bx (by omega) (by omega) (fun h => by have := hclN _ h; omega)]; exact hbx2
      · rw [← h6]
        exact reb M' N' c' ⟨L', x.c⟩ (by omega) h4 (fun j k1 k2 k3 k4 k5 => h5 j (by omega) k3 (fun h => by
          rcases k5 with k5 | k5
          · exact k5 h
          · rw [← k5] at h; have := h3 j h; omega)) h2 (Or.inr fun j hj => by have := h3 j hj; omega)
      · rw [h5 j (by omega) (by omega) (fun h => by have := hclN _ h; omega)]; exact hf2 j hj hjb
      · rw [h5 u (by omega) (Ne.symm hidu) hclu]; exact hu2
    have k5' : sg.k = 1 ∨ sg.k = 2 ∨ sg.k = 3 ∨ sg.k = 4 ∨ sg.k = 5 := by omega
    rcases k5' with hk | hk | hk | hk | hk
    · skip
      try simp only [r10_12, r10_13, r10_15, r10_17, r10_18, p7, p9, hbx2, hsb2, w1, c2, c3, hk, Int.toNat_natCast, go_sem, Int.reduceTMod, Int.reduceTDiv, Int.reduceDiv, Int.reduceMod, Int.reduceAdd, Int.reduceSub, Int.reduceMul, Int.reduceNeg, Int.reducePow, Int.reduceEq, ↓reduceIte, Nat.reduceEqDiff, Nat.reduceAdd, Nat.reduceMul, Nat.reduceLeDiff, Nat.reduceSub, Nat.reduceLT, Int.reduceToNat, Int.reduceLT, Int.reduceLE, reduceCtorEq]
      repeat' ((first | refine FK_split (fun h_ => ?_) (fun h_ => ?_) | refine GK_split (fun h_ => ?_) (fun h_ => ?_) | refine ite_both (fun h_ => ?_) (fun h_ => ?_)) <;> (try simp only [decide_eq_true_eq, decide_eq_false_iff_not, Bool.not_true, Bool.not_false, Bool.not_eq_true', Bool.not_eq_false', Bool.not_eq_eq_eq_not, Decidable.not_not] at h_) <;> (try simp only [r10_12, r10_13, r10_15, r10_17, r10_18, p7, p9, hbx2, hsb2, w1, c2, c3, hk, Int.toNat_natCast, h_, go_sem, Int.reduceTMod, Int.reduceTDiv, Int.reduceDiv, Int.reduceMod, Int.reduceAdd, Int.reduceSub, Int.reduceMul, Int.reduceNeg, Int.reducePow, Int.reduceEq, ↓reduceIte, Nat.reduceEqDiff, Nat.reduceAdd, Nat.reduceMul, Nat.reduceLeDiff, Nat.reduceSub, Nat.reduceLT, Int.reduceToNat, Int.reduceLT, Int.reduceLE, reduceCtorEq]))
      refine flat_r14 (sg := sg) (L := x.L) (n1 := n2) (sb := u + 2) (id := id) (cl := cl) (R := R) (bb := x.c) (B := B) hid hR hcl hn2 (by omega) hne hsb2 (by omega) ?_ ?_ (by omega) (by omega) ?_
      · simp only [p9, go_sem, Int.reduceTMod, Int.reduceTDiv, Int.reduceDiv, Int.reduceMod, Int.reduceAdd, Int.reduceSub, Int.reduceMul, Int.reduceNeg, Int.reducePow, Int.reduceEq, ↓reduceIte, Nat.reduceEqDiff, Nat.reduceAdd, Nat.reduceMul, Nat.reduceLeDiff, Nat.reduceSub, Nat.reduceLT, Int.reduceToNat, Int.reduceLT, Int.reduceLE, reduceCtorEq]
      · simp only [go_sem, Int.reduceTMod, Int.reduceTDiv, Int.reduceDiv, Int.reduceMod, Int.reduceAdd, Int.reduceSub, Int.reduceMul, Int.reduceNeg, Int.reducePow, Int.reduceEq, ↓reduceIte, Nat.reduceEqDiff, Nat.reduceAdd, Nat.reduceMul, Nat.reduceLeDiff, Nat.reduceSub, Nat.reduceLT, Int.reduceToNat, Int.reduceLT, Int.reduceLE, reduceCtorEq]
      · intro e' M' N' c' h1 h2 h3 h4 h5 _ _
        refine done e' M' N' c' _ h1 h2 h3 h4 h5 ?_
        rw [← hfin, if_pos hk]
    · skip
      try simp only [r10_12, r10_13, r10_15, r10_17, r10_18, p7, p9, hbx2, hsb2, w1, c2, c3, hk, Int.toNat_natCast, go_sem, Int.reduceTMod, Int.reduceTDiv, Int.reduceDiv, Int.reduceMod, Int.reduceAdd, Int.reduceSub, Int.reduceMul, Int.reduceNeg, Int.reducePow, Int.reduceEq, ↓reduceIte, Nat.reduceEqDiff, Nat.reduceAdd, Nat.reduceMul, Nat.reduceLeDiff, Nat.reduceSub, Nat.reduceLT, Int.reduceToNat, Int.reduceLT, Int.reduceLE, reduceCtorEq]
      repeat' ((first | refine FK_split (fun h_ => ?_) (fun h_ => ?_) | refine GK_split (fun h_ => ?_) (fun h_ => ?_) | refine ite_both (fun h_ => ?_) (fun h_ => ?_)) <;> (try simp only [decide_eq_true_eq, decide_eq_false_iff_not, Bool.not_true, Bool.not_false, Bool.not_eq_true', Bool.not_eq_false', Bool.not_eq_eq_eq_not, Decidable.not_not] at h_) <;> (try simp only [r10_12, r10_13, r10_15, r10_17, r10_18, p7, p9, hbx2, hsb2, w1, c2, c3, hk, Int.toNat_natCast, h_, go_sem, Int.reduceTMod, Int.reduceTDiv, Int.reduceDiv, Int.reduceMod, Int.reduceAdd, Int.reduceSub, Int.reduceMul, Int.reduceNeg, Int.reducePow, Int.reduceEq, ↓reduceIte, Nat.reduceEqDiff, Nat.reduceAdd, Nat.reduceMul, Nat.reduceLeDiff, Nat.reduceSub, Nat.reduceLT, Int.reduceToNat, Int.reduceLT, Int.reduceLE, reduceCtorEq]))
      refine flat_r14 (sg := sg) (L := x.L) (n1 := n2) (sb := u + 2) (id := id) (cl := cl) (R := R) (bb := x.c) (B := B) hid hR hcl hn2 (by omega) hne hsb2 (by omega) ?_ ?_ (by omega) (by omega) ?_
      · simp only [p9, go_sem, Int.reduceTMod, Int.reduceTDiv, Int.reduceDiv, Int.reduceMod, Int.reduceAdd, Int.reduceSub, Int.reduceMul, Int.reduceNeg, Int.reducePow, Int.reduceEq, ↓reduceIte, Nat.reduceEqDiff, Nat.reduceAdd, Nat.reduceMul, Nat.reduceLeDiff, Nat.reduceSub, Nat.reduceLT, Int.reduceToNat, Int.reduceLT, Int.reduceLE, reduceCtorEq]
      · simp only [go_sem, Int.reduceTMod, Int.reduceTDiv, Int.reduceDiv, Int.reduceMod, Int.reduceAdd, Int.reduceSub, Int.reduceMul, Int.reduceNeg, Int.reducePow, Int.reduceEq, ↓reduceIte, Nat.reduceEqDiff, Nat.reduceAdd, Nat.reduceMul, Nat.reduceLeDiff, Nat.reduceSub, Nat.reduceLT, Int.reduceToNat, Int.reduceLT, Int.reduceLE, reduceCtorEq]
      · intro e' M' N' c' h1 h2 h3 h4 h5 _ _
        refine done e' M' N' c' _ h1 h2 h3 h4 h5 ?_
        rw [← hfin, if_neg (by omega)]
        simp only [subF]
        rw [if_neg (by omega), if_pos hk]
    · skip
      try simp only [r10_12, r10_13, r10_15, r10_17, r10_18, p7, p9, hbx2, hsb2, w1, c2, c3, hk, Int.toNat_natCast, go_sem, Int.reduceTMod, Int.reduceTDiv, Int.reduceDiv, Int.reduceMod, Int.reduceAdd, Int.reduceSub, Int.reduceMul, Int.reduceNeg, Int.reducePow, Int.reduceEq, ↓reduceIte, Nat.reduceEqDiff, Nat.reduceAdd, Nat.reduceMul, Nat.reduceLeDiff, Nat.reduceSub, Nat.reduceLT, Int.reduceToNat, Int.reduceLT, Int.reduceLE, reduceCtorEq]
      repeat' ((first | refine FK_split (fun h_ => ?_) (fun h_ => ?_) | refine GK_split (fun h_ => ?_) (fun h_ => ?_) | refine ite_both (fun h_ => ?_) (fun h_ => ?_)) <;> (try simp only [decide_eq_true_eq, decide_eq_false_iff_not, Bool.not_true, Bool.not_false, Bool.not_eq_true', Bool.not_eq_false', Bool.not_eq_eq_eq_not, Decidable.not_not] at h_) <;> (try simp only [r10_12, r10_13, r10_15, r10_17, r10_18, p7, p9, hbx2, hsb2, w1, c2, c3, hk, Int.toNat_natCast, h_, go_sem, Int.reduceTMod, Int.reduceTDiv, Int.reduceDiv, Int.reduceMod, Int.reduceAdd, Int.reduceSub, Int.reduceMul, Int.reduceNeg, Int.reducePow, Int.reduceEq, ↓reduceIte, Nat.reduceEqDiff, Nat.reduceAdd, Nat.reduceMul, Nat.reduceLeDiff, Nat.reduceSub, Nat.reduceLT, Int.reduceToNat, Int.reduceLT, Int.reduceLE, reduceCtorEq]))
      refine flat_r19 (sg := sg) (L := x.L) (n1 := n2) (sb := u + 2) (fb := u + 1) (dx := dx) (d := d) (fr := fr) (ow := ow) (id := id) (cl := cl) (R := R) (bb := x.c) (B := B) (by omega) hd (hfr (by omega)) hin hz2 hdx2 (by omega) hfr2 ?_ ?_ hid hR hcl hn2 (by omega) hne hsb2 (by omega) ?_ ?_ (by omega) (by omega) (by omega) ?_
      · simp only [p3, go_sem, Int.reduceTMod, Int.reduceTDiv, Int.reduceDiv, Int.reduceMod, Int.reduceAdd, Int.reduceSub, Int.reduceMul, Int.reduceNeg, Int.reducePow, Int.reduceEq, ↓reduceIte, Nat.reduceEqDiff, Nat.reduceAdd, Nat.reduceMul, Nat.reduceLeDiff, Nat.reduceSub, Nat.reduceLT, Int.reduceToNat, Int.reduceLT, Int.reduceLE, reduceCtorEq]
      · simp only [p8, go_sem, Int.reduceTMod, Int.reduceTDiv, Int.reduceDiv, Int.reduceMod, Int.reduceAdd, Int.reduceSub, Int.reduceMul, Int.reduceNeg, Int.reducePow, Int.reduceEq, ↓reduceIte, Nat.reduceEqDiff, Nat.reduceAdd, Nat.reduceMul, Nat.reduceLeDiff, Nat.reduceSub, Nat.reduceLT, Int.reduceToNat, Int.reduceLT, Int.reduceLE, reduceCtorEq]
      · simp only [p9, go_sem, Int.reduceTMod, Int.reduceTDiv, Int.reduceDiv, Int.reduceMod, Int.reduceAdd, Int.reduceSub, Int.reduceMul, Int.reduceNeg, Int.reducePow, Int.reduceEq, ↓reduceIte, Nat.reduceEqDiff, Nat.reduceAdd, Nat.reduceMul, Nat.reduceLeDiff, Nat.reduceSub, Nat.reduceLT, Int.reduceToNat, Int.reduceLT, Int.reduceLE, reduceCtorEq]
      · simp only [go_sem, Int.reduceTMod, Int.reduceTDiv, Int.reduceDiv, Int.reduceMod, Int.reduceAdd, Int.reduceSub, Int.reduceMul, Int.reduceNeg, Int.reducePow, Int.reduceEq, ↓reduceIte, Nat.reduceEqDiff, Nat.reduceAdd, Nat.reduceMul, Nat.reduceLeDiff, Nat.reduceSub, Nat.reduceLT, Int.reduceToNat, Int.reduceLT, Int.reduceLE, reduceCtorEq]
      · intro e' M' N' c' h1 h2 h3 h4 h5 _ _
        refine done e' M' N' c' _ h1 h2 h3 h4 h5 ?_
        rw [← hfin, if_neg (by omega)]
        simp only [subF]
        rw [if_neg (by omega), if_neg (by omega)]
    · skip
      try simp only [r10_12, r10_13, r10_15, r10_17, r10_18, p7, p9, hbx2, hsb2, w1, c2, c3, hk, Int.toNat_natCast, go_sem, Int.reduceTMod, Int.reduceTDiv, Int.reduceDiv, Int.reduceMod, Int.reduceAdd, Int.reduceSub, Int.reduceMul, Int.reduceNeg, Int.reducePow, Int.reduceEq, ↓reduceIte, Nat.reduceEqDiff, Nat.reduceAdd, Nat.reduceMul, Nat.reduceLeDiff, Nat.reduceSub, Nat.reduceLT, Int.reduceToNat, Int.reduceLT, Int.reduceLE, reduceCtorEq]
      repeat' ((first | refine FK_split (fun h_ => ?_) (fun h_ => ?_) | refine GK_split (fun h_ => ?_) (fun h_ => ?_) | refine ite_both (fun h_ => ?_) (fun h_ => ?_)) <;> (try simp only [decide_eq_true_eq, decide_eq_false_iff_not, Bool.not_true, Bool.not_false, Bool.not_eq_true', Bool.not_eq_false', Bool.not_eq_eq_eq_not, Decidable.not_not] at h_) <;> (try simp only [r10_12, r10_13, r10_15, r10_17, r10_18, p7, p9, hbx2, hsb2, w1, c2, c3, hk, Int.toNat_natCast, h_, go_sem, Int.reduceTMod, Int.reduceTDiv, Int.reduceDiv, Int.reduceMod, Int.reduceAdd, Int.reduceSub, Int.reduceMul, Int.reduceNeg, Int.reducePow, Int.reduceEq, ↓reduceIte, Nat.reduceEqDiff, Nat.reduceAdd, Nat.reduceMul, Nat.reduceLeDiff, Nat.reduceSub, Nat.reduceLT, Int.reduceToNat, Int.reduceLT, Int.reduceLE, reduceCtorEq]))
      refine flat_r19 (sg := sg) (L := x.L) (n1 := n2) (sb := u + 2) (fb := u + 1) (dx := dx) (d := d) (fr := fr) (ow := ow) (id := id) (cl := cl) (R := R) (bb := x.c) (B := B) (by omega) hd (hfr (by omega)) hin hz2 hdx2 (by omega) hfr2 ?_ ?_ hid hR hcl hn2 (by omega) hne hsb2 (by omega) ?_ ?_ (by omega) (by omega) (by omega) ?_
      · simp only [p3, go_sem, Int.reduceTMod, Int.reduceTDiv, Int.reduceDiv, Int.reduceMod, Int.reduceAdd, Int.reduceSub, Int.reduceMul, Int.reduceNeg, Int.reducePow, Int.reduceEq, ↓reduceIte, Nat.reduceEqDiff, Nat.reduceAdd, Nat.reduceMul, Nat.reduceLeDiff, Nat.reduceSub, Nat.reduceLT, Int.reduceToNat, Int.reduceLT, Int.reduceLE, reduceCtorEq]
      · simp only [p8, go_sem, Int.reduceTMod, Int.reduceTDiv, Int.reduceDiv, Int.reduceMod, Int.reduceAdd, Int.reduceSub, Int.reduceMul, Int.reduceNeg, Int.reducePow, Int.reduceEq, ↓reduceIte, Nat.reduceEqDiff, Nat.reduceAdd, Nat.reduceMul, Nat.reduceLeDiff, Nat.reduceSub, Nat.reduceLT, Int.reduceToNat, Int.reduceLT, Int.reduceLE, reduceCtorEq]
      · simp only [p9, go_sem, Int.reduceTMod, Int.reduceTDiv, Int.reduceDiv, Int.reduceMod, Int.reduceAdd, Int.reduceSub, Int.reduceMul, Int.reduceNeg, Int.reducePow, Int.reduceEq, ↓reduceIte, Nat.reduceEqDiff, Nat.reduceAdd, Nat.reduceMul, Nat.reduceLeDiff, Nat.reduceSub, Nat.reduceLT, Int.reduceToNat, Int.reduceLT, Int.reduceLE, reduceCtorEq]
      · simp only [go_sem, Int.reduceTMod, Int.reduceTDiv, Int.reduceDiv, Int.reduceMod, Int.reduceAdd, Int.reduceSub, Int.reduceMul, Int.reduceNeg, Int.reducePow, Int.reduceEq, ↓reduceIte, Nat.reduceEqDiff, Nat.reduceAdd, Nat.reduceMul, Nat.reduceLeDiff, Nat.reduceSub, Nat.reduceLT, Int.reduceToNat, Int.reduceLT, Int.reduceLE, reduceCtorEq]
      · intro e' M' N' c' h1 h2 h3 h4 h5 _ _
        refine done e' M' N' c' _ h1 h2 h3 h4 h5 ?_
        rw [← hfin, if_neg (by omega)]
        simp only [subF]
        rw [if_neg (by omega), if_neg (by omega)]
    · skip
      try simp only [r10_12, r10_13, r10_15, r10_17, r10_18, p7, p9, hbx2, hsb2, w1, c2, c3, hk, Int.toNat_natCast, go_sem, Int.reduceTMod, Int.reduceTDiv, Int.reduceDiv, Int.reduceMod, Int.reduceAdd, Int.reduceSub, Int.reduceMul, Int.reduceNeg, Int.reducePow, Int.reduceEq, ↓reduceIte, Nat.reduceEqDiff, Nat.reduceAdd, Nat.reduceMul, Nat.reduceLeDiff, Nat.reduceSub, Nat.reduceLT, Int.reduceToNat, Int.reduceLT, Int.reduceLE, reduceCtorEq]
      repeat' ((first | refine FK_split (fun h_ => ?_) (fun h_ => ?_) | refine GK_split (fun h_ => ?_) (fun h_ => ?_) | refine ite_both (fun h_ => ?_) (fun h_ => ?_)) <;> (try simp only [decide_eq_true_eq, decide_eq_false_iff_not, Bool.not_true, Bool.not_false, Bool.not_eq_true', Bool.not_eq_false', Bool.not_eq_eq_eq_not, Decidable.not_not] at h_) <;> (try simp only [r10_12, r10_13, r10_15, r10_17, r10_18, p7, p9, hbx2, hsb2, w1, c2, c3, hk, Int.toNat_natCast, h_, go_sem, Int.reduceTMod, Int.reduceTDiv, Int.reduceDiv, Int.reduceMod, Int.reduceAdd, Int.reduceSub, Int.reduceMul, Int.reduceNeg, Int.reducePow, Int.reduceEq, ↓reduceIte, Nat.reduceEqDiff, Nat.reduceAdd, Nat.reduceMul, Nat.reduceLeDiff, Nat.reduceSub, Nat.reduceLT, Int.reduceToNat, Int.reduceLT, Int.reduceLE, reduceCtorEq]))
      refine flat_r16 (id := id) (cl := cl) (R := R) (bb := x.c) hid hR ?_ ?_
      · simp only [go_sem, Int.reduceTMod, Int.reduceTDiv, Int.reduceDiv, Int.reduceMod, Int.reduceAdd, Int.reduceSub, Int.reduceMul, Int.reduceNeg, Int.reducePow, Int.reduceEq, ↓reduceIte, Nat.reduceEqDiff, Nat.reduceAdd, Nat.reduceMul, Nat.reduceLeDiff, Nat.reduceSub, Nat.reduceLT, Int.reduceToNat, Int.reduceLT, Int.reduceLE, reduceCtorEq]
      · intro e' M' h4 h5 _ _
        refine next e' M' N2 (.sl id 0 (o1.length + 1) none 2) (by omega) ?_ ?_ (fun j hj hjb => ?_) ?_
        · rw [h5 bx (by omega)]; exact hbx2
        · rw [← hfin, if_neg (by omega)]
          simp only [subF]
          rw [if_pos hk]
          exact reb M' N2 cl ⟨x.L, true⟩ hn2 h4 (fun j k1 k2 k3 k4 k5 => h5 j k3) (hcl.keep hn2 (fun j hj => h5 j (fun h => hne (by rw [← h]; exact hj)))) (Or.inl rfl)
        · rw [h5 j (by omega)]; exact hf2 j hj hjb
        · rw [h5 u (Ne.symm hidu)]; exact hu2
  have start : ∀ (e1 : Nat → Reg) (M1 : Mem), e1 3 = .one (.ptr dx 0) → e1 7 = .one (.ptr bx 0) → e1 8 = .one (.ptr (u + 1) 0) → e1 9 = .one (.ptr (u + 2) 0) → (∀ j, j < u + 1 → M1 j = M j) → M1 (u + 1) = some ⟨fr.cs, true⟩ → M1 (u + 2) = some ⟨sg.cs, true⟩ →
      XK TA wb10 ⟨e1, M1, u + 3⟩ (.top Q) := by
    intro e1 M1 p3 p7 p8 p9 hf1 hfr1 hsb1
    have hO1 : OSc u B M1 u oc o := hO.keep (Nat.le_refl _) (fun id h1 h2 _ => hf1 id (by omega))
    have hbx1 : M1 bx = some ⟨[oc], true⟩ := by rw [hf1 bx (by omega)]; exact hbx
    by_cases hk : sg.k = 1
    · have n1' := na_0 (show bx < u + 3 by omega)
      try simp only [wb10, r10_10, r10_11, p7, p9, hsb1, hk, hbx1, n1', go_sem, Int.reduceTMod, Int.reduceTDiv, Int.reduceDiv, Int.reduceMod, Int.reduceAdd, Int.reduceSub, Int.reduceMul, Int.reduceNeg, Int.reducePow, Int.reduceEq, ↓reduceIte, Nat.reduceEqDiff, Nat.reduceAdd, Nat.reduceMul, Nat.reduceLeDiff, Nat.reduceSub, Nat.reduceLT, Int.reduceToNat, Int.reduceLT, Int.reduceLE, reduceCtorEq]
      repeat' ((first | refine FK_split (fun h_ => ?_) (fun h_ => ?_) | refine GK_split (fun h_ => ?_) (fun h_ => ?_) | refine ite_both (fun h_ => ?_) (fun h_ => ?_)) <;> (try simp only [decide_eq_true_eq, decide_eq_false_iff_not, Bool.not_true, Bool.not_false, Bool.not_eq_true', Bool.not_eq_false', Bool.not_eq_eq_eq_not, Decidable.not_not] at h_) <;> (try simp only [wb10, r10_10, r10_11, p7, p9, hsb1, hk, hbx1, n1', h_, go_sem, Int.reduceTMod, Int.reduceTDiv, Int.reduceDiv, Int.reduceMod, Int.reduceAdd, Int.reduceSub, Int.reduceMul, Int.reduceNeg, Int.reducePow, Int.reduceEq, ↓reduceIte, Nat.reduceEqDiff, Nat.reduceAdd, Nat.reduceMul, Nat.reduceLeDiff, Nat.reduceSub, Nat.reduceLT, Int.reduceToNat, Int.reduceLT, Int.reduceLE, reduceCtorEq]))
      refine K_pushS (h := hO1) (c := .sc (.slice none 0 0)) (b := false) (L := []) (ow := true) (by omega) (by omega) (fun id h1 h2 _ => upd_ne _ _ (by omega)) (upd_same _ _ _) (Or.inl ⟨rfl, rfl⟩) (fun i hi => by cases hi) (by omega) (by omega) ?_
      intro oc' m' ho hf hs
      have hlo : ∀ j, j < B → sid (.one oc) ≠ some j := fun j hj h => by have := hO.lt h; omega
      have hk2 : ∀ j, j < u + 3 → sid (.one oc) ≠ some j → m' j = M1 j := fun j hj h => by rw [hf j (by omega) h, upd_ne _ _ (by omega)]
      have hOu : ∀ j, u ≤ j → sid (.one oc) ≠ some j := fun j hj h => by have := hO.lt h; omega
      have hbx2 : m' bx = some ⟨[oc], true⟩ := by rw [hk2 bx (by omega) (hlo bx hbB)]; exact hbx1
      try simp only [p7, hbx2, go_sem, Int.reduceTMod, Int.reduceTDiv, Int.reduceDiv, Int.reduceMod, Int.reduceAdd, Int.reduceSub, Int.reduceMul, Int.reduceNeg, Int.reducePow, Int.reduceEq, ↓reduceIte, Nat.reduceEqDiff, Nat.reduceAdd, Nat.reduceMul, Nat.reduceLeDiff, Nat.reduceSub, Nat.reduceLT, Int.reduceToNat, Int.reduceLT, Int.reduceLE, reduceCtorEq]
      repeat' ((first | refine FK_split (fun h_ => ?_) (fun h_ => ?_) | refine GK_split (fun h_ => ?_) (fun h_ => ?_) | refine ite_both (fun h_ => ?_) (fun h_ => ?_)) <;> (try simp only [decide_eq_true_eq, decide_eq_false_iff_not, Bool.not_true, Bool.not_false, Bool.not_eq_true', Bool.not_eq_false', Bool.not_eq_eq_eq_not, Decidable.not_not] at h_) <;> (try simp only [p7, hbx2, h_, go_sem, Int.reduceTMod, Int.reduceTDiv, Int.reduceDiv, Int.reduceMod, Int.reduceAdd, Int.reduceSub, Int.reduceMul, Int.reduceNeg, Int.reducePow, Int.reduceEq, ↓reduceIte, Nat.reduceEqDiff, Nat.reduceAdd, Nat.reduceMul, Nat.reduceLeDiff, Nat.reduceSub, Nat.reduceLT, Int.reduceToNat, Int.reduceLT, Int.reduceLE, reduceCtorEq]))
      refine rest _ _ (u + 5) (u + 5) oc' o ⟨[], false⟩ (ho.keep (Nat.le_refl _) (fun id h1 h2 _ => upd_ne _ _ (by omega))) (Nat.le_refl _) (by omega) (upd_same _ _ _) ?_ ?_ ?_ ?_ (fun j hj hjb => ?_) ?_ ?_ ?_ (by simp only [List.length_nil]; omega) hlen ?_
      · simp only [p3, go_sem, Int.reduceTMod, Int.reduceTDiv, Int.reduceDiv, Int.reduceMod, Int.reduceAdd, Int.reduceSub, Int.reduceMul, Int.reduceNeg, Int.reducePow, Int.reduceEq, ↓reduceIte, Nat.reduceEqDiff, Nat.reduceAdd, Nat.reduceMul, Nat.reduceLeDiff, Nat.reduceSub, Nat.reduceLT, Int.reduceToNat, Int.reduceLT, Int.reduceLE, reduceCtorEq]
      · simp only [p7, go_sem, Int.reduceTMod, Int.reduceTDiv, Int.reduceDiv, Int.reduceMod, Int.reduceAdd, Int.reduceSub, Int.reduceMul, Int.reduceNeg, Int.reducePow, Int.reduceEq, ↓reduceIte, Nat.reduceEqDiff, Nat.reduceAdd, Nat.reduceMul, Nat.reduceLeDiff, Nat.reduceSub, Nat.reduceLT, Int.reduceToNat, Int.reduceLT, Int.reduceLE, reduceCtorEq]
      · simp only [p8, go_sem, Int.reduceTMod, Int.reduceTDiv, Int.reduceDiv, Int.reduceMod, Int.reduceAdd, Int.reduceSub, Int.reduceMul, Int.reduceNeg, Int.reducePow, Int.reduceEq, ↓reduceIte, Nat.reduceEqDiff, Nat.reduceAdd, Nat.reduceMul, Nat.reduceLeDiff, Nat.reduceSub, Nat.reduceLT, Int.reduceToNat, Int.reduceLT, Int.reduceLE, reduceCtorEq]
      · simp only [p9, go_sem, Int.reduceTMod, Int.reduceTDiv, Int.reduceDiv, Int.reduceMod, Int.reduceAdd, Int.reduceSub, Int.reduceMul, Int.reduceNeg, Int.reducePow, Int.reduceEq, ↓reduceIte, Nat.reduceEqDiff, Nat.reduceAdd, Nat.reduceMul, Nat.reduceLeDiff, Nat.reduceSub, Nat.reduceLT, Int.reduceToNat, Int.reduceLT, Int.reduceLE, reduceCtorEq]
      · rw [upd_ne _ _ hjb, hk2 j (by omega) (hlo j hj)]
        exact hf1 j (by omega)
      · rw [upd_ne _ _ (by omega), hk2 u (by omega) (hOu u (Nat.le_refl _))]
        exact hf1 u (by omega)
      · rw [upd_ne _ _ (by omega), hk2 (u + 1) (by omega) (hOu _ (by omega))]
        exact hfr1
      · rw [upd_ne _ _ (by omega), hk2 (u + 2) (by omega) (hOu _ (by omega))]
        exact hsb1
      · rw [if_pos hk]
        simp only [stepF]
        rw [if_pos hk]
        rfl
    · skip
      try simp only [wb10, r10_10, p9, hsb1, hk, go_sem, Int.reduceTMod, Int.reduceTDiv, Int.reduceDiv, Int.reduceMod, Int.reduceAdd, Int.reduceSub, Int.reduceMul, Int.reduceNeg, Int.reducePow, Int.reduceEq, ↓reduceIte, Nat.reduceEqDiff, Nat.reduceAdd, Nat.reduceMul, Nat.reduceLeDiff, Nat.reduceSub, Nat.reduceLT, Int.reduceToNat, Int.reduceLT, Int.reduceLE, reduceCtorEq]
      repeat' ((first | refine FK_split (fun h_ => ?_) (fun h_ => ?_) | refine GK_split (fun h_ => ?_) (fun h_ => ?_) | refine ite_both (fun h_ => ?_) (fun h_ => ?_)) <;> (try simp only [decide_eq_true_eq, decide_eq_false_iff_not, Bool.not_true, Bool.not_false, Bool.not_eq_true', Bool.not_eq_false', Bool.not_eq_eq_eq_not, Decidable.not_not] at h_) <;> (try simp only [wb10, r10_10, p9, hsb1, hk, h_, go_sem, Int.reduceTMod, Int.reduceTDiv, Int.reduceDiv, Int.reduceMod, Int.reduceAdd, Int.reduceSub, Int.reduceMul, Int.reduceNeg, Int.reducePow, Int.reduceEq, ↓reduceIte, Nat.reduceEqDiff, Nat.reduceAdd, Nat.reduceMul, Nat.reduceLeDiff, Nat.reduceSub, Nat.reduceLT, Int.reduceToNat, Int.reduceLT, Int.reduceLE, reduceCtorEq]))
      obtain ⟨o1, x, rfl⟩ := snoc_of (hopen hk)
      refine rest _ M1 (u + 3) u oc o1 x hO1 (by omega) (by omega) hbx1 ?_ ?_ ?_ ?_ (fun j hj _ => hf1 j (by omega)) (hf1 u (by omega)) hfr1 hsb1 (hL x (by simp)) (by simp at hlen; omega) ?_
      · simp only [p3, go_sem, Int.reduceTMod, Int.reduceTDiv, Int.reduceDiv, Int.reduceMod, Int.reduceAdd, Int.reduceSub, Int.reduceMul, Int.reduceNeg, Int.reducePow, Int.reduceEq, ↓reduceIte, Nat.reduceEqDiff, Nat.reduceAdd, Nat.reduceMul, Nat.reduceLeDiff, Nat.reduceSub, Nat.reduceLT, Int.reduceToNat, Int.reduceLT, Int.reduceLE, reduceCtorEq]
      · simp only [p7, go_sem, Int.reduceTMod, Int.reduceTDiv, Int.reduceDiv, Int.reduceMod, Int.reduceAdd, Int.reduceSub, Int.reduceMul, Int.reduceNeg, Int.reducePow, Int.reduceEq, ↓reduceIte, Nat.reduceEqDiff, Nat.reduceAdd, Nat.reduceMul, Nat.reduceLeDiff, Nat.reduceSub, Nat.reduceLT, Int.reduceToNat, Int.reduceLT, Int.reduceLE, reduceCtorEq]
      · simp only [p8, go_sem, Int.reduceTMod, Int.reduceTDiv, Int.reduceDiv, Int.reduceMod, Int.reduceAdd, Int.reduceSub, Int.reduceMul, Int.reduceNeg, Int.reducePow, Int.reduceEq, ↓reduceIte, Nat.reduceEqDiff, Nat.reduceAdd, Nat.reduceMul, Nat.reduceLeDiff, Nat.reduceSub, Nat.reduceLT, Int.reduceToNat, Int.reduceLT, Int.reduceLE, reduceCtorEq]
      · simp only [p9, go_sem, Int.reduceTMod, Int.reduceTDiv, Int.reduceDiv, Int.reduceMod, Int.reduceAdd, Int.reduceSub, Int.reduceMul, Int.reduceNeg, Int.reducePow, Int.reduceEq, ↓reduceIte, Nat.reduceEqDiff, Nat.reduceAdd, Nat.reduceMul, Nat.reduceLeDiff, Nat.reduceSub, Nat.reduceLT, Int.reduceToNat, Int.reduceLT, Int.reduceLE, reduceCtorEq]
      · rw [if_neg hk]
        simp only [stepF]
        rw [if_neg hk, modL_snoc]
  try simp only [wa10, r10_8, r10_9, q26, q27, go_sem, Int.reduceTMod, Int.reduceTDiv, Int.reduceDiv, Int.reduceMod, Int.reduceAdd, Int.reduceSub, Int.reduceMul, Int.reduceNeg, Int.reducePow, Int.reduceEq, ↓reduceIte, Nat.reduceEqDiff, Nat.reduceAdd, Nat.reduceMul, Nat.reduceLeDiff, Nat.reduceSub, Nat.reduceLT, Int.reduceToNat, Int.reduceLT, Int.reduceLE, reduceCtorEq]
  repeat' ((first | refine FK_split (fun h_ => ?_) (fun h_ => ?_) | refine GK_split (fun h_ => ?_) (fun h_ => ?_) | refine ite_both (fun h_ => ?_) (fun h_ => ?_)) <;> (try simp only [decide_eq_true_eq, decide_eq_false_iff_not, Bool.not_true, Bool.not_false, Bool.not_eq_true', Bool.not_eq_false', Bool.not_eq_eq_eq_not, Decidable.not_not] at h_) <;> (try simp only [wa10, r10_8, r10_9, q26, q27, h_, go_sem, Int.reduceTMod, Int.reduceTDiv, Int.reduceDiv, Int.reduceMod, Int.reduceAdd, Int.reduceSub, Int.reduceMul, Int.reduceNeg, Int.reducePow, Int.reduceEq, ↓reduceIte, Nat.reduceEqDiff, Nat.reduceAdd, Nat.reduceMul, Nat.reduceLeDiff, Nat.reduceSub, Nat.reduceLT, Int.reduceToNat, Int.reduceLT, Int.reduceLE, reduceCtorEq]))
  refine start _ _ ?_ ?_ ?_ ?_ (fun j hj => ?_) ?_ ?_
  · simp only [q3, go_sem, Int.reduceTMod, Int.reduceTDiv, Int.reduceDiv, Int.reduceMod, Int.reduceAdd, Int.reduceSub, Int.reduceMul, Int.reduceNeg, Int.reducePow, Int.reduceEq, ↓reduceIte, Nat.reduceEqDiff, Nat.reduceAdd, Nat.reduceMul, Nat.reduceLeDiff, Nat.reduceSub, Nat.reduceLT, Int.reduceToNat, Int.reduceLT, Int.reduceLE, reduceCtorEq]
  · simp only [q7, go_sem, Int.reduceTMod, Int.reduceTDiv, Int.reduceDiv, Int.reduceMod, Int.reduceAdd, Int.reduceSub, Int.reduceMul, Int.reduceNeg, Int.reducePow, Int.reduceEq, ↓reduceIte, Nat.reduceEqDiff, Nat.reduceAdd, Nat.reduceMul, Nat.reduceLeDiff, Nat.reduceSub, Nat.reduceLT, Int.reduceToNat, Int.reduceLT, Int.reduceLE, reduceCtorEq]
  · simp only [go_sem, Int.reduceTMod, Int.reduceTDiv, Int.reduceDiv, Int.reduceMod, Int.reduceAdd, Int.reduceSub, Int.reduceMul, Int.reduceNeg, Int.reducePow, Int.reduceEq, ↓reduceIte, Nat.reduceEqDiff, Nat.reduceAdd, Nat.reduceMul, Nat.reduceLeDiff, Nat.reduceSub, Nat.reduceLT, Int.reduceToNat, Int.reduceLT, Int.reduceLE, reduceCtorEq]
  · simp only [go_sem, Int.reduceTMod, Int.reduceTDiv, Int.reduceDiv, Int.reduceMod, Int.reduceAdd, Int.reduceSub, Int.reduceMul, Int.reduceNeg, Int.reducePow, Int.reduceEq, ↓reduceIte, Nat.reduceEqDiff, Nat.reduceAdd, Nat.reduceMul, Nat.reduceLeDiff, Nat.reduceSub, Nat.reduceLT, Int.reduceToNat, Int.reduceLT, Int.reduceLE, reduceCtorEq]
  · simp only [na_0 (show j < u + 1 by omega), go_sem, Int.reduceTMod, Int.reduceTDiv, Int.reduceDiv, Int.reduceMod, Int.reduceAdd, Int.reduceSub, Int.reduceMul, Int.reduceNeg, Int.reducePow, Int.reduceEq, ↓reduceIte, Nat.reduceEqDiff, Nat.reduceAdd, Nat.reduceMul, Nat.reduceLeDiff, Nat.reduceSub, Nat.reduceLT, Int.reduceToNat, Int.reduceLT, Int.reduceLE, reduceCtorEq]
    rw [if_neg (by omega), if_neg (by omega)]
  · simp only [go_sem, Int.reduceTMod, Int.reduceTDiv, Int.reduceDiv, Int.reduceMod, Int.reduceAdd, Int.reduceSub, Int.reduceMul, Int.reduceNeg, Int.reducePow, Int.reduceEq, ↓reduceIte, Nat.reduceEqDiff, Nat.reduceAdd, Nat.reduceMul, Nat.reduceLeDiff, Nat.reduceSub, Nat.reduceLT, Int.reduceToNat, Int.reduceLT, Int.reduceLE, reduceCtorEq]
  · simp only [go_sem, Int.reduceTMod, Int.reduceTDiv, Int.reduceDiv, Int.reduceMod, Int.reduceAdd, Int.reduceSub, Int.reduceMul, Int.reduceNeg, Int.reducePow, Int.reduceEq, ↓reduceIte, Nat.reduceEqDiff, Nat.reduceAdd, Nat.reduceMul, Nat.reduceLeDiff, Nat.reduceSub, Nat.reduceLT, Int.reduceToNat, Int.reduceLT, Int.reduceLE, reduceCtorEq]
theorem XK_walk {T : Nat → Option SFun} {fi nd p1 p2 bx id off len : Nat} {x : O} {a b : SC} {s : St} {k : Kt} {c : Cell} (hx : evO s.e x = .one (.clo fi [.ptr bx 0])) (hb : (s.m bx).bind (·.cells[0]?) = some c) (hs : segsOf c = some (id, off, len))
    (h : WLoop T nd p1 p2 a b s.e s.n id off (fun m n => KN T k ⟨s.e, m, n⟩) len 0 (upd s.m s.n (some ⟨[zc, zc], true⟩)) (s.n + 1)) : XK T (.walk fi nd p1 p2 x a b) s k := X_walk hx hb hs h
theorem w_walk {c : Cell} {m : Mem} {n : Nat} : Fn TA 33 [.one c] m n (fun r' m' n' => r' = .one (.clo 53 [.ptr n 0]) ∧ n' = n + 1 ∧ m' n = some ⟨[c], true⟩) := by
  refine Fn_ofK (fn := F33) rfl (by simp [F33]) ?_
  try simp only [r33_0, r33_1, c33, F33, go_sem, Int.reduceTMod, Int.reduceTDiv, Int.reduceDiv, Int.reduceMod, Int.reduceAdd, Int.reduceSub, Int.reduceMul, Int.reduceNeg, Int.reducePow, Int.reduceEq, ↓reduceIte, Nat.reduceEqDiff, Nat.reduceAdd, Nat.reduceMul, Nat.reduceLeDiff, Nat.reduceSub, Nat.reduceLT, Int.reduceToNat, Int.reduceLT, Int.reduceLE, reduceCtorEq]
  repeat' ((first | refine FK_split (fun h_ => ?_) (fun h_ => ?_) | refine GK_split (fun h_ => ?_) (fun h_ => ?_) | refine ite_both (fun h_ => ?_) (fun h_ => ?_)) <;> (try simp only [decide_eq_true_eq, decide_eq_false_iff_not, Bool.not_true, Bool.not_false, Bool.not_eq_true', Bool.not_eq_false', Bool.not_eq_eq_eq_not, Decidable.not_not] at h_) <;> (try simp only [r33_0, r33_1, c33, F33, h_, go_sem, Int.reduceTMod, Int.reduceTDiv, Int.reduceDiv, Int.reduceMod, Int.reduceAdd, Int.reduceSub, Int.reduceMul, Int.reduceNeg, Int.reducePow, Int.reduceEq, ↓reduceIte, Nat.reduceEqDiff, Nat.reduceAdd, Nat.reduceMul, Nat.reduceLeDiff, Nat.reduceSub, Nat.reduceLT, Int.reduceToNat, Int.reduceLT, Int.reduceLE, reduceCtorEq]))
theorem Fn_callF {T : Nat → Option SFun} {f : Nat} {a : List Reg} {m : Mem} {n : Nat} {r0 : Reg} (h : callF T f a m n = some r0) : Fn T f a m n (fun r _ _ => r = r0) := by
  unfold callF at h
  obtain ⟨⟨r, m', n'⟩, h1, h2⟩ := Option.map_eq_some_iff.1 h
  obtain ⟨k, hk⟩ := callR_inv h1
  exact ⟨k, r, m', n', hk, h2⟩
theorem Need_Fn (k : Int) : Fn TA 15 [.one (I k)] (tabM needC) 1 (fun r _ _ => r = .one (.sc (.int .i64 (need k)))) := Fn_callF (v_Need k)
/-- What path.Flat hands back. -/
def PFQ (l : List Sg) (d : Int) (n : Nat) (r' : Reg) (m' : Mem) (n' : Nat) : Prop :=
  ∃ x k, r' = .tup [x, RI k] ∧ n ≤ n' ∧ ((chkP l ≠ 0 ∧ x = rnil ∧ k = chkP l) ∨ (chkP l = 0 ∧ (d < 0 ∨ 6 < d) ∧ x = rnil ∧ k = 30) ∨
    (chkP l = 0 ∧ 0 ≤ d ∧ d ≤ 6 ∧ k = 0 ∧ ∃ oc, x = .one oc ∧ OSc 0 (n + 1) m' n' oc (stI d.toNat l l.length).2))
set_option maxHeartbeats 4000000 in
theorem w_PFlat {r : Reg} {l : List Sg} {d : Int} {m : Mem} {n : Nat} {o : Bool} (hr : RSg m n r l) (h0 : m 0 = some ⟨needC, o⟩) (hn : 0 < n) (hl : l.length ≤ 100000) :
    Fn TA 10 [r, RI d] m n (PFQ l d n) := by
  refine Fn_ofK (fn := F10) rfl (by simp [F10]) ?_
  have hlen := hr.len
  have hr0 : RSg (upd m n (some ⟨[I d], true⟩)) (n + 1) r l := hr.keep (by omega) (fun id hid => upd_ne _ _ (by omega))
  have hz : (upd m n (some ⟨[I d], true⟩)) 0 = some ⟨needC, o⟩ := by rw [upd_ne _ _ (by omega)]; exact h0
  have vC := v_Check (o := false) hr0.frz (by rw [frz_at, hz]; rfl) (by omega)
  by_cases hk : chkP l = 0
  case neg =>
    try simp only [r10_0, r10_1, r10_2, r10_3, r10_4, r10_5, r10_6, r10_7, r10_8, r10_9, r10_10, r10_11, r10_12, r10_13, r10_15, r10_16, r10_17, r10_18, r10_19, r10_20, r10_14, r10_21, c10, F10, vC, hk, go_sem, Int.reduceTMod, Int.reduceTDiv, Int.reduceDiv, Int.reduceMod, Int.reduceAdd, Int.reduceSub, Int.reduceMul, Int.reduceNeg, Int.reducePow, Int.reduceEq, ↓reduceIte, Nat.reduceEqDiff, Nat.reduceAdd, Nat.reduceMul, Nat.reduceLeDiff, Nat.reduceSub, Nat.reduceLT, Int.reduceToNat, Int.reduceLT, Int.reduceLE, reduceCtorEq]
    repeat' ((first | refine FK_split (fun h_ => ?_) (fun h_ => ?_) | refine GK_split (fun h_ => ?_) (fun h_ => ?_) | refine ite_both (fun h_ => ?_) (fun h_ => ?_)) <;> (try simp only [decide_eq_true_eq, decide_eq_false_iff_not, Bool.not_true, Bool.not_false, Bool.not_eq_true', Bool.not_eq_false', Bool.not_eq_eq_eq_not, Decidable.not_not] at h_) <;> (try simp only [r10_0, r10_1, r10_2, r10_3, r10_4, r10_5, r10_6, r10_7, r10_8, r10_9, r10_10, r10_11, r10_12, r10_13, r10_15, r10_16, r10_17, r10_18, r10_19, r10_20, r10_14, r10_21, c10, F10, vC, hk, h_, go_sem, Int.reduceTMod, Int.reduceTDiv, Int.reduceDiv, Int.reduceMod, Int.reduceAdd, Int.reduceSub, Int.reduceMul, Int.reduceNeg, Int.reducePow, Int.reduceEq, ↓reduceIte, Nat.reduceEqDiff, Nat.reduceAdd, Nat.reduceMul, Nat.reduceLeDiff, Nat.reduceSub, Nat.reduceLT, Int.reduceToNat, Int.reduceLT, Int.reduceLE, reduceCtorEq]))
    exact ⟨_, _, rfl, by omega, Or.inl ⟨hk, rfl, rfl⟩⟩
  by_cases d0 : d < 0
  · skip
    try simp only [r10_0, r10_1, r10_2, r10_3, r10_4, r10_5, r10_6, r10_7, r10_8, r10_9, r10_10, r10_11, r10_12, r10_13, r10_15, r10_16, r10_17, r10_18, r10_19, r10_20, r10_14, r10_21, c10, F10, vC, hk, d0, go_sem, Int.reduceTMod, Int.reduceTDiv, Int.reduceDiv, Int.reduceMod, Int.reduceAdd, Int.reduceSub, Int.reduceMul, Int.reduceNeg, Int.reducePow, Int.reduceEq, ↓reduceIte, Nat.reduceEqDiff, Nat.reduceAdd, Nat.reduceMul, Nat.reduceLeDiff, Nat.reduceSub, Nat.reduceLT, Int.reduceToNat, Int.reduceLT, Int.reduceLE, reduceCtorEq]
    repeat' ((first | refine FK_split (fun h_ => ?_) (fun h_ => ?_) | refine GK_split (fun h_ => ?_) (fun h_ => ?_) | refine ite_both (fun h_ => ?_) (fun h_ => ?_)) <;> (try simp only [decide_eq_true_eq, decide_eq_false_iff_not, Bool.not_true, Bool.not_false, Bool.not_eq_true', Bool.not_eq_false', Bool.not_eq_eq_eq_not, Decidable.not_not] at h_) <;> (try simp only [r10_0, r10_1, r10_2, r10_3, r10_4, r10_5, r10_6, r10_7, r10_8, r10_9, r10_10, r10_11, r10_12, r10_13, r10_15, r10_16, r10_17, r10_18, r10_19, r10_20, r10_14, r10_21, c10, F10, vC, hk, d0, h_, go_sem, Int.reduceTMod, Int.reduceTDiv, Int.reduceDiv, Int.reduceMod, Int.reduceAdd, Int.reduceSub, Int.reduceMul, Int.reduceNeg, Int.reducePow, Int.reduceEq, ↓reduceIte, Nat.reduceEqDiff, Nat.reduceAdd, Nat.reduceMul, Nat.reduceLeDiff, Nat.reduceSub, Nat.reduceLT, Int.reduceToNat, Int.reduceLT, Int.reduceLE, reduceCtorEq]))
    exact ⟨_, _, rfl, by omega, Or.inr (Or.inl ⟨hk, Or.inl d0, rfl, rfl⟩)⟩
  by_cases d6 : 6 < d
  · skip
    try simp only [r10_0, r10_1, r10_2, r10_3, r10_4, r10_5, r10_6, r10_7, r10_8, r10_9, r10_10, r10_11, r10_12, r10_13, r10_15, r10_16, r10_17, r10_18, r10_19, r10_20, r10_14, r10_21, c10, F10, vC, hk, d0, d6, go_sem, Int.reduceTMod, Int.reduceTDiv, Int.reduceDiv, Int.reduceMod, Int.reduceAdd, Int.reduceSub, Int.reduceMul, Int.reduceNeg, Int.reducePow, Int.reduceEq, ↓reduceIte, Nat.reduceEqDiff, Nat.reduceAdd, Nat.reduceMul, Nat.reduceLeDiff, Nat.reduceSub, Nat.reduceLT, Int.reduceToNat, Int.reduceLT, Int.reduceLE, reduceCtorEq]
    repeat' ((first | refine FK_split (fun h_ => ?_) (fun h_ => ?_) | refine GK_split (fun h_ => ?_) (fun h_ => ?_) | refine ite_both (fun h_ => ?_) (fun h_ => ?_)) <;> (try simp only [decide_eq_true_eq, decide_eq_false_iff_not, Bool.not_true, Bool.not_false, Bool.not_eq_true', Bool.not_eq_false', Bool.not_eq_eq_eq_not, Decidable.not_not] at h_) <;> (try simp only [r10_0, r10_1, r10_2, r10_3, r10_4, r10_5, r10_6, r10_7, r10_8, r10_9, r10_10, r10_11, r10_12, r10_13, r10_15, r10_16, r10_17, r10_18, r10_19, r10_20, r10_14, r10_21, c10, F10, vC, hk, d0, d6, h_, go_sem, Int.reduceTMod, Int.reduceTDiv, Int.reduceDiv, Int.reduceMod, Int.reduceAdd, Int.reduceSub, Int.reduceMul, Int.reduceNeg, Int.reducePow, Int.reduceEq, ↓reduceIte, Nat.reduceEqDiff, Nat.reduceAdd, Nat.reduceMul, Nat.reduceLeDiff, Nat.reduceSub, Nat.reduceLT, Int.reduceToNat, Int.reduceLT, Int.reduceLE, reduceCtorEq]))
    exact ⟨_, _, rfl, by omega, Or.inr (Or.inl ⟨hk, Or.inr d6, rfl, rfl⟩)⟩
  obtain ⟨dn, rfl⟩ : ∃ a : Nat, d = a := ⟨d.toNat, by omega⟩
  obtain ⟨c, rfl⟩ : ∃ c, r = .one c := by
    rcases hr with ⟨rfl, _⟩ | ⟨id, off, cap, rfl, _⟩
    · exact ⟨_, rfl⟩
    · exact ⟨_, rfl⟩
  obtain ⟨id, off, hseg, hrow⟩ : ∃ id off, segsOf c = some (id, off, l.length) ∧ ∀ (i : Nat) (s : Sg), l[i]? = some s → id < n ∧ rd m id (off + i * 7) 7 = some s.cs := by
    rcases hr with ⟨e, rfl⟩ | ⟨id, off, cap, e, hid, hrd⟩
    · injection e with e
      subst e
      exact ⟨0, 0, rfl, fun i s h => by simp at h⟩
    · injection e with e
      subst e
      refine ⟨id, off, ?_, fun i s h => ⟨hid, rd_at cs7 hrd h⟩⟩
      simp only [segsOf]
      rw [if_pos (by omega)]
  try simp only [F10, c10, r10_0, r10_1, r10_2, r10_4, r10_6, r10_7, vC, hk, d0, d6, go_sem, Int.reduceTMod, Int.reduceTDiv, Int.reduceDiv, Int.reduceMod, Int.reduceAdd, Int.reduceSub, Int.reduceMul, Int.reduceNeg, Int.reducePow, Int.reduceEq, ↓reduceIte, Nat.reduceEqDiff, Nat.reduceAdd, Nat.reduceMul, Nat.reduceLeDiff, Nat.reduceSub, Nat.reduceLT, Int.reduceToNat, Int.reduceLT, Int.reduceLE, reduceCtorEq]
  repeat' ((first | refine FK_split (fun h_ => ?_) (fun h_ => ?_) | refine GK_split (fun h_ => ?_) (fun h_ => ?_) | refine ite_both (fun h_ => ?_) (fun h_ => ?_)) <;> (try simp only [decide_eq_true_eq, decide_eq_false_iff_not, Bool.not_true, Bool.not_false, Bool.not_eq_true', Bool.not_eq_false', Bool.not_eq_eq_eq_not, Decidable.not_not] at h_) <;> (try simp only [F10, c10, r10_0, r10_1, r10_2, r10_4, r10_6, r10_7, vC, hk, d0, d6, h_, go_sem, Int.reduceTMod, Int.reduceTDiv, Int.reduceDiv, Int.reduceMod, Int.reduceAdd, Int.reduceSub, Int.reduceMul, Int.reduceNeg, Int.reducePow, Int.reduceEq, ↓reduceIte, Nat.reduceEqDiff, Nat.reduceAdd, Nat.reduceMul, Nat.reduceLeDiff, Nat.reduceSub, Nat.reduceLT, Int.reduceToNat, Int.reduceLT, Int.reduceLE, reduceCtorEq]))
  refine RK_callk ?_
  show Fn TA _ [.one c] _ _ _
  refine w_walk.mono ?_
  rintro _ m1 _ ⟨rfl, rfl, hb⟩
  rw [show max (n + 2) (n + 2 + 1) = n + 3 by omega]
  have hz1 : ∀ j, j < n → unfrz (upd (upd m n (some ⟨[I dn], true⟩)) (n + 1) (some ⟨[.sc (.slice none 0 0)], true⟩)) (n + 2) m1 j = m j := fun j hj => by rw [unfrz_at, if_pos (by omega), upd_ne _ _ (by omega), upd_ne _ _ (by omega)]
  have hd1 : unfrz (upd (upd m n (some ⟨[I dn], true⟩)) (n + 1) (some ⟨[.sc (.slice none 0 0)], true⟩)) (n + 2) m1 n = some ⟨[I dn], true⟩ := by rw [unfrz_at, if_pos (by omega), upd_ne _ _ (by omega), upd_same]
  have hb1 : unfrz (upd (upd m n (some ⟨[I dn], true⟩)) (n + 1) (some ⟨[.sc (.slice none 0 0)], true⟩)) (n + 2) m1 (n + 1) = some ⟨[.sc (.slice none 0 0)], true⟩ := by rw [unfrz_at, if_pos (by omega), upd_same]
  have hc1 : unfrz (upd (upd m n (some ⟨[I dn], true⟩)) (n + 1) (some ⟨[.sc (.slice none 0 0)], true⟩)) (n + 2) m1 (n + 2) = some ⟨[c], true⟩ := by rw [unfrz_at, if_neg (by omega)]; exact hb
  generalize unfrz (upd (upd m n (some ⟨[I dn], true⟩)) (n + 1) (some ⟨[.sc (.slice none 0 0)], true⟩)) (n + 2) m1 = M1 at *
  try simp only [go_sem, Int.reduceTMod, Int.reduceTDiv, Int.reduceDiv, Int.reduceMod, Int.reduceAdd, Int.reduceSub, Int.reduceMul, Int.reduceNeg, Int.reducePow, Int.reduceEq, ↓reduceIte, Nat.reduceEqDiff, Nat.reduceAdd, Nat.reduceMul, Nat.reduceLeDiff, Nat.reduceSub, Nat.reduceLT, Int.reduceToNat, Int.reduceLT, Int.reduceLE, reduceCtorEq]
  repeat' ((first | refine FK_split (fun h_ => ?_) (fun h_ => ?_) | refine GK_split (fun h_ => ?_) (fun h_ => ?_) | refine ite_both (fun h_ => ?_) (fun h_ => ?_)) <;> (try simp only [decide_eq_true_eq, decide_eq_false_iff_not, Bool.not_true, Bool.not_false, Bool.not_eq_true', Bool.not_eq_false', Bool.not_eq_eq_eq_not, Decidable.not_not] at h_) <;> (try simp only [h_, go_sem, Int.reduceTMod, Int.reduceTDiv, Int.reduceDiv, Int.reduceMod, Int.reduceAdd, Int.reduceSub, Int.reduceMul, Int.reduceNeg, Int.reducePow, Int.reduceEq, ↓reduceIte, Nat.reduceEqDiff, Nat.reduceAdd, Nat.reduceMul, Nat.reduceLeDiff, Nat.reduceSub, Nat.reduceLT, Int.reduceToNat, Int.reduceLT, Int.reduceLE, reduceCtorEq]))
  have key : ∀ (E : Nat → Reg) (K : Kt), E 3 = .one (.ptr n 0) → E 7 = .one (.ptr (n + 1) 0) → (∀ M N oc, n + 4 ≤ N → M (n + 1) = some ⟨[oc], true⟩ → OSc 0 (n + 4) M N oc (stI dn l l.length).2 → (∀ j, j < n → M j = m j) → KN TA K ⟨E, M, N⟩) →
      ∀ k i M N, i + k = l.length → n + 4 ≤ N → M n = some ⟨[I dn], true⟩ → (∃ oc, M (n + 1) = some ⟨[oc], true⟩ ∧ OSc 0 (n + 4) M N oc (stI dn l i).2) → M (n + 3) = some ⟨(stI dn l i).1.cs, true⟩ → (∀ j, j < n → M j = m j) →
        WLoop TA 15 26 27 wa10 wb10 E (n + 3) id off (fun m n => KN TA K ⟨E, m, n⟩) k i M N := by
    intro E K q3 q7 hend k
    induction k with
    | zero =>
      rintro i M N hi hN hx ⟨oc, hbx, hO⟩ hf hm
      obtain rfl : i = l.length := by omega
      exact hend M N oc hN hbx hO hm
    | succ k ih =>
      rintro i M N hi hN hx ⟨oc, hbx, hO⟩ hf hm
      have hs : l[i]? = some (l[i]'(by omega)) := List.getElem?_eq_getElem (by omega)
      have hsu := stI_succ (d := dn) hs
      obtain ⟨hid, hrd⟩ := hrow i _ hs
      obtain ⟨k1, k5, hin, hop⟩ := ahead (d := dn) hk hs
      obtain ⟨hl1, hl2⟩ := stI_len (d := dn) (by omega) (l := l) i (by omega)
      generalize l[i]'(by omega) = sg at *
      refine ⟨sg.cs, (stI dn l i).1.cs, by rw [rd_same (hm id hid)]; exact hrd, by rw [rd_of hf]; rfl, ?_⟩
      show XK TA (.seq wa10 wb10) ⟨_, _, _⟩ (.top _)
      have hu : ∀ j, j < N → (upd M N (some ⟨sg.cs, true⟩)) j = M j := fun j hj => upd_ne _ _ (by omega)
      refine flat_round (B := n + 4) (u := N) (dx := n) (bx := n + 1) (d := dn) (oc := oc) (o := (stI dn l i).2) (fr := (stI dn l i).1) (sg := sg) (ow := o) (by omega) k1 k5 hin (fun h => (hop h).1) (fun h => by obtain ⟨_, q, _, _, _, _, h6⟩ := hop h; exact h6) (by omega) (fun x hx => by have := hl2 x hx; omega)
        ((hO.keep (Nat.le_refl _) (fun id h1 h2 _ => hu id h2)).re (Or.inl (Nat.le_refl _))) hN (upd_same _ _ _) (by rw [hu n (by omega)]; exact hx) (by omega) (by rw [hu _ (by omega)]; exact hbx) (by omega) (by omega) (by rw [hu 0 (by omega), hm 0 hn]; exact h0) (by omega) ?_ ?_ ?_ ?_ ?_
      · simp only [q3, go_sem, Int.reduceTMod, Int.reduceTDiv, Int.reduceDiv, Int.reduceMod, Int.reduceAdd, Int.reduceSub, Int.reduceMul, Int.reduceNeg, Int.reducePow, Int.reduceEq, ↓reduceIte, Nat.reduceEqDiff, Nat.reduceAdd, Nat.reduceMul, Nat.reduceLeDiff, Nat.reduceSub, Nat.reduceLT, Int.reduceToNat, Int.reduceLT, Int.reduceLE, reduceCtorEq]
      · simp only [q7, go_sem, Int.reduceTMod, Int.reduceTDiv, Int.reduceDiv, Int.reduceMod, Int.reduceAdd, Int.reduceSub, Int.reduceMul, Int.reduceNeg, Int.reducePow, Int.reduceEq, ↓reduceIte, Nat.reduceEqDiff, Nat.reduceAdd, Nat.reduceMul, Nat.reduceLeDiff, Nat.reduceSub, Nat.reduceLT, Int.reduceToNat, Int.reduceLT, Int.reduceLE, reduceCtorEq]
      · simp only [go_sem, Int.reduceTMod, Int.reduceTDiv, Int.reduceDiv, Int.reduceMod, Int.reduceAdd, Int.reduceSub, Int.reduceMul, Int.reduceNeg, Int.reducePow, Int.reduceEq, ↓reduceIte, Nat.reduceEqDiff, Nat.reduceAdd, Nat.reduceMul, Nat.reduceLeDiff, Nat.reduceSub, Nat.reduceLT, Int.reduceToNat, Int.reduceLT, Int.reduceLE, reduceCtorEq]
      · simp only [go_sem, Int.reduceTMod, Int.reduceTDiv, Int.reduceDiv, Int.reduceMod, Int.reduceAdd, Int.reduceSub, Int.reduceMul, Int.reduceNeg, Int.reducePow, Int.reduceEq, ↓reduceIte, Nat.reduceEqDiff, Nat.reduceAdd, Nat.reduceMul, Nat.reduceLeDiff, Nat.reduceSub, Nat.reduceLT, Int.reduceToNat, Int.reduceLT, Int.reduceLE, reduceCtorEq]
      intro e' M' N' oc' hN' hbx' hO' hfr' hu'
      have hseg : M' N = some ⟨sg.cs, true⟩ := by rw [hu', upd_same]
      have hlow : ∀ j, j < n → M' j = m j := fun j hj => by rw [hfr' j (by omega) (by omega), hu j (by omega)]; exact hm j hj
      have hz' : M' 0 = some ⟨needC, o⟩ := by rw [hlow 0 hn]; exact h0
      have hx' : M' n = some ⟨[I dn], true⟩ := by rw [hfr' n (by omega) (by omega), hu n (by omega)]; exact hx
      have hf' : M' (n + 3) = some ⟨(stI dn l i).1.cs, true⟩ := by rw [hfr' (n + 3) (by omega) (by omega), hu _ (by omega)]; exact hf
      have hO2 : OSc 0 (n + 4) M' N' oc' (stI dn l (i + 1)).2 := by rw [hsu]; exact hO'.re (Or.inr (by omega))
      refine ⟨rfl, I sg.k, need sg.k, by simp [hseg], ⟨_, hz', rfl, rfl, Need_Fn sg.k⟩, ?_⟩
      have hnb := need_bd sg.k
      by_cases hne : need sg.k = 0
      · refine Or.inl ⟨by omega, ih (i + 1) M' N' (by omega) (by omega) hx' ⟨oc', hbx', hO2⟩ ?_ hlow⟩
        rw [hsu]
        simp only [stF, nxtP]
        rw [if_pos hne]
        exact hf'
      · refine Or.inr ⟨by omega, by omega, (ptJ sg ((need sg.k).toNat - 1)).cs, upd M' (n + 3) (some ⟨(ptJ sg ((need sg.k).toNat - 1)).cs, true⟩), ?_, ?_, ih (i + 1) _ N' (by omega) (by omega) ?_ ⟨oc', ?_, ?_⟩ ?_ ?_⟩
        · rw [rd_of hseg]
          have h3 : (need sg.k).toNat = 1 ∨ (need sg.k).toNat = 2 ∨ (need sg.k).toNat = 3 := by omega
          rcases h3 with h3 | h3 | h3 <;> rw [h3] <;> rfl
        · simp only [wr, hf']
          rfl
        · rw [upd_ne _ _ (by omega)]; exact hx'
        · rw [upd_ne _ _ (by omega)]; exact hbx'
        · exact hO2.keep (Nat.le_refl _) (fun id h1 h2 _ => upd_ne _ _ (by omega))
        · rw [upd_same, hsu]
          simp only [stF, nxtP]
          rw [if_neg hne]
        · intro j hj
          rw [upd_ne _ _ (by omega)]
          exact hlow j hj
  refine XK_walk (c := c) (bx := n + 2) (id := id) (off := off) (len := l.length) ?_ ?_ hseg ?_
  · simp only [go_sem, Int.reduceTMod, Int.reduceTDiv, Int.reduceDiv, Int.reduceMod, Int.reduceAdd, Int.reduceSub, Int.reduceMul, Int.reduceNeg, Int.reducePow, Int.reduceEq, ↓reduceIte, Nat.reduceEqDiff, Nat.reduceAdd, Nat.reduceMul, Nat.reduceLeDiff, Nat.reduceSub, Nat.reduceLT, Int.reduceToNat, Int.reduceLT, Int.reduceLE, reduceCtorEq]
  · simp [hc1]
  · refine key _ _ ?_ ?_ ?_ l.length 0 _ _ (by omega) (show n + 4 ≤ n + 3 + 1 by omega) ?_ ⟨.sc (.slice none 0 0), ?_, ?_⟩ ?_ ?_
    · simp only [go_sem, Int.reduceTMod, Int.reduceTDiv, Int.reduceDiv, Int.reduceMod, Int.reduceAdd, Int.reduceSub, Int.reduceMul, Int.reduceNeg, Int.reducePow, Int.reduceEq, ↓reduceIte, Nat.reduceEqDiff, Nat.reduceAdd, Nat.reduceMul, Nat.reduceLeDiff, Nat.reduceSub, Nat.reduceLT, Int.reduceToNat, Int.reduceLT, Int.reduceLE, reduceCtorEq]
    · simp only [go_sem, Int.reduceTMod, Int.reduceTDiv, Int.reduceDiv, Int.reduceMod, Int.reduceAdd, Int.reduceSub, Int.reduceMul, Int.reduceNeg, Int.reducePow, Int.reduceEq, ↓reduceIte, Nat.reduceEqDiff, Nat.reduceAdd, Nat.reduceMul, Nat.reduceLeDiff, Nat.reduceSub, Nat.reduceLT, Int.reduceToNat, Int.reduceLT, Int.reduceLE, reduceCtorEq]
    · intro M N oc h1 h2 h3 h4
      try simp only [r10_21, h2, go_sem, Int.reduceTMod, Int.reduceTDiv, Int.reduceDiv, Int.reduceMod, Int.reduceAdd, Int.reduceSub, Int.reduceMul, Int.reduceNeg, Int.reducePow, Int.reduceEq, ↓reduceIte, Nat.reduceEqDiff, Nat.reduceAdd, Nat.reduceMul, Nat.reduceLeDiff, Nat.reduceSub, Nat.reduceLT, Int.reduceToNat, Int.reduceLT, Int.reduceLE, reduceCtorEq]
      repeat' ((first | refine FK_split (fun h_ => ?_) (fun h_ => ?_) | refine GK_split (fun h_ => ?_) (fun h_ => ?_) | refine ite_both (fun h_ => ?_) (fun h_ => ?_)) <;> (try simp only [decide_eq_true_eq, decide_eq_false_iff_not, Bool.not_true, Bool.not_false, Bool.not_eq_true', Bool.not_eq_false', Bool.not_eq_eq_eq_not, Decidable.not_not] at h_) <;> (try simp only [r10_21, h2, h_, go_sem, Int.reduceTMod, Int.reduceTDiv, Int.reduceDiv, Int.reduceMod, Int.reduceAdd, Int.reduceSub, Int.reduceMul, Int.reduceNeg, Int.reducePow, Int.reduceEq, ↓reduceIte, Nat.reduceEqDiff, Nat.reduceAdd, Nat.reduceMul, Nat.reduceLeDiff, Nat.reduceSub, Nat.reduceLT, Int.reduceToNat, Int.reduceLT, Int.reduceLE, reduceCtorEq]))
      exact ⟨_, _, rfl, by omega, Or.inr (Or.inr ⟨hk, by omega, by omega, rfl, oc, rfl, h3.base (by omega)⟩)⟩
    · rw [upd_ne _ _ (show n ≠ n + 3 by omega)]; exact hd1
    · rw [upd_ne _ _ (show n + 1 ≠ n + 3 by omega)]; exact hb1
    · exact OSc.nil
    · exact upd_same _ _ _
    · intro j hj
      rw [upd_ne _ _ (show j ≠ n + 3 by omega)]
      exact hz1 j hj

/- The reference's Flat walked. Conditions: those that each theorem names. -/
open Go Go.Proofs
set_option linter.unusedSimpArgs false
set_option linter.unusedVariables false

theorem pt_cell {m : Mem} {b j : Nat} {sg : Sg} {o : Bool} (h : m b = some ⟨sg.cs, o⟩) (hj : j < 3) : rd m b (1 + j * 2) 2 = some [I (ptJ sg j).x, I (ptJ sg j).y] := by
  rw [rd_of h]
  have h3 : j = 0 ∨ j = 1 ∨ j = 2 := by omega
  rcases h3 with rfl | rfl | rfl <;> rfl
theorem v_From {r : Reg} {l : List Sg} {q : Sg} {i : Nat} {m : Mem} {n : Nat} (hr : RSg m n r l) (hq : l[i - 1]? = some q) (hi : 0 < i) (hi2 : i < 1000000) (hn : 1 ≤ need q.k) :
    callF TA 22 [r, RI i] m n = some (.agg (ptJ q ((need q.k).toNat - 1)).cs) := by
  refine callF_of (Fn_ofK (fn := F22) rfl (by simp [F22]) ?_)
  have hnb := need_bd q.k
  have hil : i - 1 < l.length := (List.getElem?_eq_some_iff.1 hq).1
  obtain ⟨id, off, cap, rfl, hid, hrd⟩ := hr.at cs7 hq
  obtain ⟨b, hb1, hb2⟩ := rd_cell hrd (a := 0) (c := I q.k) rfl
  rw [Nat.add_zero] at hb2
  have w1 : IntKind.i64.wrap ((i : Int) - 1) = ((i - 1 : Nat) : Int) := (wr_eq (by omega) (by omega)).trans (by omega)
  obtain ⟨jn, hjn⟩ : ∃ jn, jn = (need q.k).toNat - 1 := ⟨_, rfl⟩
  have w2 : IntKind.i64.wrap (need q.k - 1) = (jn : Int) := (wr_eq (by omega) (by omega)).trans (by omega)
  have hj3 : jn < 3 := by omega
  have hpt := rd_sub (a := 1 + jn * 2) (q := 2) hrd (by omega)
  have hpt2 : (q.cs.drop (1 + jn * 2)).take 2 = [I (ptJ q jn).x, I (ptJ q jn).y] := by
    have h3 : jn = 0 ∨ jn = 1 ∨ jn = 2 := by omega
    rcases h3 with h3 | h3 | h3 <;> rw [h3] <;> rfl
  rw [hpt2, show off + (i - 1) * 7 + (1 + jn * 2) = off + ((i - 1) * 7 + 1) + jn * 2 by omega] at hpt
  rw [← hjn]
  have c2 : (((i - 1 : Nat) : Int) < (l.length : Int)) = True := eq_true (by omega)
  have c3 : (0 ≤ ((i - 1 : Nat) : Int)) = True := eq_true (by omega)
  have d1 : (0 ≤ (jn : Int)) = True := eq_true (by omega)
  have d2 : ((jn : Int) < 3) = True := eq_true (by omega)
  have d3 : ((jn : Int) < ((3 : Nat) : Int)) = True := eq_true (by omega)
  have n1 := na_0 hid
  have hpt' : rd (upd m n (some ⟨[I 0, I 0], true⟩)) id (off + ((i - 1) * 7 + 1) + jn * 2) 2 = some [I (ptJ q jn).x, I (ptJ q jn).y] := by rw [rd_same (upd_ne _ _ (by omega))]; exact hpt
  try simp only [r22_0, r22_1, r22_2, c22, F22, w1, w2, c2, c3, d1, d2, d3, n1, hb1, hb2, hpt, hpt', v_rNeed, Int.toNat_natCast, go_sem, Int.reduceTMod, Int.reduceTDiv, Int.reduceDiv, Int.reduceMod, Int.reduceAdd, Int.reduceSub, Int.reduceMul, Int.reduceNeg, Int.reducePow, Int.reduceEq, ↓reduceIte, Nat.reduceEqDiff, Nat.reduceAdd, Nat.reduceMul, Nat.reduceLeDiff, Nat.reduceSub, Nat.reduceLT, Int.reduceToNat, Int.reduceLT, Int.reduceLE, reduceCtorEq]
  repeat' ((first | refine FK_split (fun h_ => ?_) (fun h_ => ?_) | refine GK_split (fun h_ => ?_) (fun h_ => ?_) | refine ite_both (fun h_ => ?_) (fun h_ => ?_)) <;> (try simp only [decide_eq_true_eq, decide_eq_false_iff_not, Bool.not_true, Bool.not_false, Bool.not_eq_true', Bool.not_eq_false', Bool.not_eq_eq_eq_not, Decidable.not_not] at h_) <;> (try simp only [r22_0, r22_1, r22_2, c22, F22, w1, w2, c2, c3, d1, d2, d3, n1, hb1, hb2, hpt, hpt', v_rNeed, Int.toNat_natCast, h_, go_sem, Int.reduceTMod, Int.reduceTDiv, Int.reduceDiv, Int.reduceMod, Int.reduceAdd, Int.reduceSub, Int.reduceMul, Int.reduceNeg, Int.reducePow, Int.reduceEq, ↓reduceIte, Nat.reduceEqDiff, Nat.reduceAdd, Nat.reduceMul, Nat.reduceLeDiff, Nat.reduceSub, Nat.reduceLT, Int.reduceToNat, Int.reduceLT, Int.reduceLE, reduceCtorEq]))

end Go.Proofs.YtpleidpbapgmiaaDoor.Sy

/- Curves: curve.Halves. Conditions: those that each theorem names. -/
namespace Go.Proofs.YtpleidpbapgmiaaDoor.Sy.Cu
open Go Go.Proofs
set_option linter.unusedSimpArgs false
set_option linter.unusedVariables false
attribute [local go_sem] R_nil R_mv R_pick R_alloc R_box R_build R_bslice R_load1 R_loadA R_store R_nilchk R_bin R_beq R_eqv R_eqnil R_un R_conv R_mkfn R_mkslice R_slS R_slA R_fadr R_fld R_iadrA R_iadrS R_idxA R_ext R_len R_lenC R_cap R_app R_appz R_pre R_cpy R_mn R_mx
  noId Bool.false_or evalOp evO evOs upd_upd upd_at unfrz_at putE_some putE_none Then_some X_seq X_reg X_dreg X_ureg X_ret X_skip X_exit X_block X_condK condK_bool Next_n Next_x Next_r Out_n Out_x Out_r Ret_n Ret_r
  bin_shr1 bin_add bin_sub bin_mul bin_lss bin_leq bin_gtr bin_geq bin_eql bin_neq un_not un_neg boolOf_b boolOf_tup R_guard Option.map_some evRes pack_one pack_two pack_three pack_none List.getD_cons_zero List.getD_cons_succ getD_nil
  Option.some.injEq exists_eq_left' Reg.cs? fillC setL List.set_cons_zero List.set_cons_succ List.length_cons List.length_nil rd_upd rdB wr List.drop_zero List.drop_succ_cons List.take_succ_cons List.take_zero List.getElem?_cons_zero List.getElem?_cons_succ
  ix Int.toNat_zero lenO_sl lenO_nil sn1 ns1 sn2 ns2 sn3 ns3 sn4 ns4 sn5 ns5 sn6 ns6 sn7 ns7 sn8 ns8 sn9 ns9 sn10 ns10 sn11 ns11 sn12 ns12 sk1_2 sk1_3 sk1_4 sk1_5 sk1_6 sk1_7 sk1_8 sk2_1 sk2_3 sk2_4 sk2_5 sk2_6 sk2_7 sk2_8 sk3_1 sk3_2 sk3_4 sk3_5 sk3_6 sk3_7 sk3_8 sk4_1 sk4_2 sk4_3 sk4_5 sk4_6 sk4_7 sk4_8 sk5_1 sk5_2 sk5_3 sk5_4 sk5_6 sk5_7 sk5_8 sk6_1 sk6_2 sk6_3 sk6_4 sk6_5 sk6_7 sk6_8 sk7_1 sk7_2 sk7_3 sk7_4 sk7_5 sk7_6 sk7_8 sk8_1 sk8_2 sk8_3 sk8_4 sk8_5 sk8_6 sk8_7

/-- slices.Clone of points, not none. -/
theorem Clone63 (r : Reg) (l : List Pt) (m : Mem) (n : Nat) (hr : RP m n r l) (hpos : 0 < l.length) (hl : l.length ≤ 1000000) :
    Fn TA 58 [r] m n (fun r' m' n' => n ≤ n' ∧ (∀ id, id < n → m' id = m id) ∧ Gr n m' n' r' l) := by
  refine Fn_of (fn := F58) rfl (by simp [F58]) ?_
  rcases hr with ⟨_, hz, _⟩ | ⟨id, off, cap, rfl, hid, hrd⟩
  · omega
  have hrd' : rd (upd m n (some ⟨[], true⟩)) id off (l.length * 2) = some (encP l) := by
    simp only [lt0 hid, go_sem, Int.reduceTMod, Int.reduceTDiv, Int.reduceDiv, Int.reduceMod, Int.reduceAdd, Int.reduceSub, Int.reduceMul, Int.reduceNeg, Int.reducePow, Int.reduceEq, bne_iff_ne, Int.cast_ofNat_Int, ↓reduceIte, Nat.reduceEqDiff, Nat.reduceAdd, Nat.reduceMul, Nat.reduceLeDiff, Nat.reduceSub, Nat.reduceLT, Int.reduceToNat, Int.reduceLT, Int.reduceLE, reduceCtorEq, Nat.zero_add, Nat.add_zero, and_self, and_true, true_and, ne_eq, not_false_eq_true, not_true_eq_false, decide_true, decide_false, Bool.false_eq_true, Bool.not_true, Bool.not_false, Bool.true_and, Bool.and_true, Bool.or_false, Bool.false_or, Bool.and_self]
    exact hrd
  have hnew : newsOf (upd m n (some ⟨[], true⟩)) 2 (.one (.sl id off l.length cap 2)) = some (l.length, encP l) := by simp [newsOf, hrd']
  obtain ⟨m', g1, g2, g3⟩ := evApp_push (m := upd m n (some ⟨[], true⟩)) (n := n + 1) (by' := 16) (id := n) (len := 0) (cap := some 0) (olds := []) hnew hpos (by omega) (upd_same _ _ _) rfl (by simp only [Nat.zero_mul, List.length_nil, List.take_nil, Nat.le_refl, go_sem, Int.reduceTMod, Int.reduceTDiv, Int.reduceDiv, Int.reduceMod, Int.reduceAdd, Int.reduceSub, Int.reduceMul, Int.reduceNeg, Int.reducePow, Int.reduceEq, bne_iff_ne, Int.cast_ofNat_Int, ↓reduceIte, Nat.reduceEqDiff, Nat.reduceAdd, Nat.reduceMul, Nat.reduceLeDiff, Nat.reduceSub, Nat.reduceLT, Int.reduceToNat, Int.reduceLT, Int.reduceLE, reduceCtorEq, Nat.zero_add, Nat.add_zero, and_self, and_true, true_and, ne_eq, not_false_eq_true, not_true_eq_false, decide_true, decide_false, Bool.false_eq_true, Bool.not_true, Bool.not_false, Bool.true_and, Bool.and_true, Bool.or_false, Bool.false_or, Bool.and_self]) (Or.inr ⟨0, rfl, by omega⟩)
  rw [Nat.zero_add] at g1
  simp only [F58, c58, r58_0, r58_1, r58_3, g1, go_sem, Int.reduceTMod, Int.reduceTDiv, Int.reduceDiv, Int.reduceMod, Int.reduceAdd, Int.reduceSub, Int.reduceMul, Int.reduceNeg, Int.reducePow, Int.reduceEq, bne_iff_ne, Int.cast_ofNat_Int, ↓reduceIte, Nat.reduceEqDiff, Nat.reduceAdd, Nat.reduceMul, Nat.reduceLeDiff, Nat.reduceSub, Nat.reduceLT, Int.reduceToNat, Int.reduceLT, Int.reduceLE, reduceCtorEq, Nat.zero_add, Nat.add_zero, and_self, and_true, true_and, ne_eq, not_false_eq_true, not_true_eq_false, decide_true, decide_false, Bool.false_eq_true, Bool.not_true, Bool.not_false, Bool.true_and, Bool.and_true, Bool.or_false, Bool.false_or, Bool.and_self]
  refine ⟨by omega, fun i hi => ?_, n + 1, none, rfl, by omega, by omega, by simpa using g2, Or.inl rfl⟩
  rw [g3 i (by omega) (by omega)]
  simp only [lt0 hi, go_sem, Int.reduceTMod, Int.reduceTDiv, Int.reduceDiv, Int.reduceMod, Int.reduceAdd, Int.reduceSub, Int.reduceMul, Int.reduceNeg, Int.reducePow, Int.reduceEq, bne_iff_ne, Int.cast_ofNat_Int, ↓reduceIte, Nat.reduceEqDiff, Nat.reduceAdd, Nat.reduceMul, Nat.reduceLeDiff, Nat.reduceSub, Nat.reduceLT, Int.reduceToNat, Int.reduceLT, Int.reduceLE, reduceCtorEq, Nat.zero_add, Nat.add_zero, and_self, and_true, true_and, ne_eq, not_false_eq_true, not_true_eq_false, decide_true, decide_false, Bool.false_eq_true, Bool.not_true, Bool.not_false, Bool.true_and, Bool.and_true, Bool.or_false, Bool.false_or, Bool.and_self]

theorem rowRP (v : Cv) (m : Mem) (n id : Nat) (hid : id < n) (h : ∃ o, m id = some ⟨v.row, o⟩) : RP m n (.one (.sl id 0 v.pts.length (some 4) 2)) v.pts := by
  obtain ⟨o, h⟩ := h
  refine Or.inr ⟨id, 0, some 4, rfl, hid, ?_⟩
  unfold rd
  rw [h]
  cases v <;> rfl

/-- curve.Halves of a curve. -/
theorem Halves45 (v : Cv) (r : Reg) (m : Mem) (n : Nat) (hr : RP m n r v.pts) (hv : v.inP = true) :
    Fn TA 44 [r] m n (fun r' m' n' => ∃ ra rb, r' = .tup [ra, rb, RI 0] ∧ n ≤ n' ∧ (∀ id, id < n → m' id = m id) ∧ Gr n m' n' ra v.fst.pts ∧ Gr n m' n' rb v.snd.pts) := by
  have hlen := pts_len v
  refine Fn_of (fn := F44) rfl (by simp [F44]) ?_
  simp only [F44, c44, r44_0, r44_1, go_sem, Int.reduceTMod, Int.reduceTDiv, Int.reduceDiv, Int.reduceMod, Int.reduceAdd, Int.reduceSub, Int.reduceMul, Int.reduceNeg, Int.reducePow, Int.reduceEq, bne_iff_ne, Int.cast_ofNat_Int, ↓reduceIte, Nat.reduceEqDiff, Nat.reduceAdd, Nat.reduceMul, Nat.reduceLeDiff, Nat.reduceSub, Nat.reduceLT, Int.reduceToNat, Int.reduceLT, Int.reduceLE, reduceCtorEq, Nat.zero_add, Nat.add_zero, and_self, and_true, true_and, ne_eq, not_false_eq_true, not_true_eq_false, decide_true, decide_false, Bool.false_eq_true, Bool.not_true, Bool.not_false, Bool.true_and, Bool.and_true, Bool.or_false, Bool.false_or, Bool.and_self]
  refine R_callq ?_
  simp only [go_sem, Int.reduceTMod, Int.reduceTDiv, Int.reduceDiv, Int.reduceMod, Int.reduceAdd, Int.reduceSub, Int.reduceMul, Int.reduceNeg, Int.reducePow, Int.reduceEq, bne_iff_ne, Int.cast_ofNat_Int, ↓reduceIte, Nat.reduceEqDiff, Nat.reduceAdd, Nat.reduceMul, Nat.reduceLeDiff, Nat.reduceSub, Nat.reduceLT, Int.reduceToNat, Int.reduceLT, Int.reduceLE, reduceCtorEq, Nat.zero_add, Nat.add_zero, and_self, and_true, true_and, ne_eq, not_false_eq_true, not_true_eq_false, decide_true, decide_false, Bool.false_eq_true, Bool.not_true, Bool.not_false, Bool.true_and, Bool.and_true, Bool.or_false, Bool.false_or, Bool.and_self]
  refine (check59 r v.pts _ _ hr.frz (by omega)).mono ?_
  rintro _ _ _ rfl
  refine ⟨rfl, ?_⟩
  rw [if_pos ⟨pts_in hv, hlen⟩]
  simp only [r44_2, r44_4, go_sem, Int.reduceTMod, Int.reduceTDiv, Int.reduceDiv, Int.reduceMod, Int.reduceAdd, Int.reduceSub, Int.reduceMul, Int.reduceNeg, Int.reducePow, Int.reduceEq, bne_iff_ne, Int.cast_ofNat_Int, ↓reduceIte, Nat.reduceEqDiff, Nat.reduceAdd, Nat.reduceMul, Nat.reduceLeDiff, Nat.reduceSub, Nat.reduceLT, Int.reduceToNat, Int.reduceLT, Int.reduceLE, reduceCtorEq, Nat.zero_add, Nat.add_zero, and_self, and_true, true_and, ne_eq, not_false_eq_true, not_true_eq_false, decide_true, decide_false, Bool.false_eq_true, Bool.not_true, Bool.not_false, Bool.true_and, Bool.and_true, Bool.or_false, Bool.false_or, Bool.and_self]
  refine R_callq ?_
  simp only [go_sem, Int.reduceTMod, Int.reduceTDiv, Int.reduceDiv, Int.reduceMod, Int.reduceAdd, Int.reduceSub, Int.reduceMul, Int.reduceNeg, Int.reducePow, Int.reduceEq, bne_iff_ne, Int.cast_ofNat_Int, ↓reduceIte, Nat.reduceEqDiff, Nat.reduceAdd, Nat.reduceMul, Nat.reduceLeDiff, Nat.reduceSub, Nat.reduceLT, Int.reduceToNat, Int.reduceLT, Int.reduceLE, reduceCtorEq, Nat.zero_add, Nat.add_zero, and_self, and_true, true_and, ne_eq, not_false_eq_true, not_true_eq_false, decide_true, decide_false, Bool.false_eq_true, Bool.not_true, Bool.not_false, Bool.true_and, Bool.and_true, Bool.or_false, Bool.false_or, Bool.and_self]
  refine (rowOf60 v r _ _ hr.frz).mono ?_
  rintro _ _ _ rfl
  have hfl : (Reg.agg v.row).flat = true := by cases v <;> rfl
  refine ⟨hfl, ?_⟩
  refine R_callz (by cases v <;> rfl) ?_
  simp only [go_sem, Int.reduceTMod, Int.reduceTDiv, Int.reduceDiv, Int.reduceMod, Int.reduceAdd, Int.reduceSub, Int.reduceMul, Int.reduceNeg, Int.reducePow, Int.reduceEq, bne_iff_ne, Int.cast_ofNat_Int, ↓reduceIte, Nat.reduceEqDiff, Nat.reduceAdd, Nat.reduceMul, Nat.reduceLeDiff, Nat.reduceSub, Nat.reduceLT, Int.reduceToNat, Int.reduceLT, Int.reduceLE, reduceCtorEq, Nat.zero_add, Nat.add_zero, and_self, and_true, true_and, ne_eq, not_false_eq_true, not_true_eq_false, decide_true, decide_false, Bool.false_eq_true, Bool.not_true, Bool.not_false, Bool.true_and, Bool.and_true, Bool.or_false, Bool.false_or, Bool.and_self]
  refine (halves61 v hv (fun _ => none) 1).mono ?_
  rintro _ _ _ rfl
  refine ⟨by cases v <;> rfl, ?_⟩
  have fin : ∀ (M : Mem) (e : Nat → Reg), e 6 = .one (.ptr n 0) → e 7 = .one (.ptr (n + 1) 0) → (∀ i, i < n → M i = m i) → M n = some ⟨v.fst.row, true⟩ → M (n + 1) = some ⟨v.snd.row, true⟩ →
      R TA r44_5 e M (n + 1 + 1) (fun e m_1 n_1 => ∃ ra rb, Reg.tup [e 2, e 3, e 4] = .tup [ra, rb, RI 0] ∧ n ≤ n_1 ∧ (∀ id, id < n → m_1 id = m id) ∧ Gr n m_1 n_1 ra v.fst.pts ∧ Gr n m_1 n_1 rb v.snd.pts) := by
    intro M e h6 h7 hold hA hB
    have hlf : v.fst.pts.length = v.pts.length := by cases v <;> rfl
    have hls : v.snd.pts.length = v.pts.length := by cases v <;> rfl
    have a8 : v.fst.row[8]? = some (I v.pts.length) := by cases v <;> rfl
    have b8 : v.snd.row[8]? = some (I v.pts.length) := by cases v <;> rfl
    have lf : v.fst.row.length = 9 := row9 _
    have ls : v.snd.row.length = 9 := row9 _
    have hb4 : bnds 4 (some 4) none (some (RI v.pts.length)) none = some (0, v.pts.length, some 4) := by cases v <;> rfl
    simp only [r44_5, h6, h7, hA, a8, Option.map_none, hb4, lf, go_sem, Int.reduceTMod, Int.reduceTDiv, Int.reduceDiv, Int.reduceMod, Int.reduceAdd, Int.reduceSub, Int.reduceMul, Int.reduceNeg, Int.reducePow, Int.reduceEq, bne_iff_ne, Int.cast_ofNat_Int, ↓reduceIte, Nat.reduceEqDiff, Nat.reduceAdd, Nat.reduceMul, Nat.reduceLeDiff, Nat.reduceSub, Nat.reduceLT, Int.reduceToNat, Int.reduceLT, Int.reduceLE, reduceCtorEq, Nat.zero_add, Nat.add_zero, and_self, and_true, true_and, ne_eq, not_false_eq_true, not_true_eq_false, decide_true, decide_false, Bool.false_eq_true, Bool.not_true, Bool.not_false, Bool.true_and, Bool.and_true, Bool.or_false, Bool.false_or, Bool.and_self]
    refine R_callk ?_
    simp only [go_sem, Int.reduceTMod, Int.reduceTDiv, Int.reduceDiv, Int.reduceMod, Int.reduceAdd, Int.reduceSub, Int.reduceMul, Int.reduceNeg, Int.reducePow, Int.reduceEq, bne_iff_ne, Int.cast_ofNat_Int, ↓reduceIte, Nat.reduceEqDiff, Nat.reduceAdd, Nat.reduceMul, Nat.reduceLeDiff, Nat.reduceSub, Nat.reduceLT, Int.reduceToNat, Int.reduceLT, Int.reduceLE, reduceCtorEq, Nat.zero_add, Nat.add_zero, and_self, and_true, true_and, ne_eq, not_false_eq_true, not_true_eq_false, decide_true, decide_false, Bool.false_eq_true, Bool.not_true, Bool.not_false, Bool.true_and, Bool.and_true, Bool.or_false, Bool.false_or, Bool.and_self]
    refine (Clone63 _ v.fst.pts (frz M) (n + 1 + 1) (Rd.frz ?_) (by omega) (by omega)).mono ?_
    · have := rowRP v.fst M (n + 1 + 1) n (by omega) ⟨true, hA⟩
      rwa [hlf] at this
    rintro ra m1 n1 ⟨hn1, _, ha⟩
    have hmx : max (n + 1 + 1) n1 = n1 := Nat.max_eq_right hn1
    have ha : Gr (n + 1 + 1) (unfrz M (n + 1 + 1) m1) n1 ra v.fst.pts := ha.keep (Nat.le_refl _) (fun i hi => by rw [unfrz_at, if_neg (by have := ha.sn.2 i hi; omega)])
    have hB1 : unfrz M (n + 1 + 1) m1 (n + 1) = some ⟨v.snd.row, true⟩ := by rw [unfrz_at, if_pos (by omega)]; exact hB
    have hold1 : ∀ i, i < n → unfrz M (n + 1 + 1) m1 i = m i := fun i hi => by rw [unfrz_at, if_pos (by omega)]; exact hold i hi
    rw [hmx]
    generalize unfrz M (n + 1 + 1) m1 = M1 at ha hB1 hold1 ⊢
    simp only [h6, h7, hB1, b8, Option.map_none, hb4, ls, go_sem, Int.reduceTMod, Int.reduceTDiv, Int.reduceDiv, Int.reduceMod, Int.reduceAdd, Int.reduceSub, Int.reduceMul, Int.reduceNeg, Int.reducePow, Int.reduceEq, bne_iff_ne, Int.cast_ofNat_Int, ↓reduceIte, Nat.reduceEqDiff, Nat.reduceAdd, Nat.reduceMul, Nat.reduceLeDiff, Nat.reduceSub, Nat.reduceLT, Int.reduceToNat, Int.reduceLT, Int.reduceLE, reduceCtorEq, Nat.zero_add, Nat.add_zero, and_self, and_true, true_and, ne_eq, not_false_eq_true, not_true_eq_false, decide_true, decide_false, Bool.false_eq_true, Bool.not_true, Bool.not_false, Bool.true_and, Bool.and_true, Bool.or_false, Bool.false_or, Bool.and_self]
    refine R_callk ?_
    simp only [go_sem, Int.reduceTMod, Int.reduceTDiv, Int.reduceDiv, Int.reduceMod, Int.reduceAdd, Int.reduceSub, Int.reduceMul, Int.reduceNeg, Int.reducePow, Int.reduceEq, bne_iff_ne, Int.cast_ofNat_Int, ↓reduceIte, Nat.reduceEqDiff, Nat.reduceAdd, Nat.reduceMul, Nat.reduceLeDiff, Nat.reduceSub, Nat.reduceLT, Int.reduceToNat, Int.reduceLT, Int.reduceLE, reduceCtorEq, Nat.zero_add, Nat.add_zero, and_self, and_true, true_and, ne_eq, not_false_eq_true, not_true_eq_false, decide_true, decide_false, Bool.false_eq_true, Bool.not_true, Bool.not_false, Bool.true_and, Bool.and_true, Bool.or_false, Bool.false_or, Bool.and_self]
    refine (Clone63 _ v.snd.pts (frz M1) n1 (Rd.frz ?_) (by omega) (by omega)).mono ?_
    · have := rowRP v.snd M1 n1 (n + 1) (by omega) ⟨true, hB1⟩
      rwa [hls] at this
    rintro rb m2 n2 ⟨hn2, _, hb⟩
    have hmx2 : max n1 n2 = n2 := Nat.max_eq_right hn2
    have ha : Gr (n + 1 + 1) (unfrz M1 n1 m2) n2 ra v.fst.pts := ha.keep hn2 (fun i hi => by rw [unfrz_at, if_pos (RP.lt ha.sn.1 hi)])
    have hb : Gr n1 (unfrz M1 n1 m2) n2 rb v.snd.pts := hb.keep (Nat.le_refl _) (fun i hi => by rw [unfrz_at, if_neg (by have := hb.sn.2 i hi; omega)])
    have hold2 : ∀ i, i < n → unfrz M1 n1 m2 i = m i := fun i hi => by rw [unfrz_at, if_pos (by omega)]; exact hold1 i hi
    rw [hmx2]
    generalize unfrz M1 n1 m2 = M2 at ha hb hold2 ⊢
    refine ⟨_, _, rfl, by omega, fun i hi => by rw [if_pos (by omega)]; exact hold1 i hi, ?_, ?_⟩
    · obtain ⟨id, cap, e1, e2, e3⟩ := ha
      exact ⟨id, cap, e1, by omega, e3⟩
    · obtain ⟨id, cap, e1, e2, e3⟩ := hb
      exact ⟨id, cap, e1, by omega, e3⟩
  cases v with
  | quad a b c =>
    simp only [List.replicate, Cv.row, Cv.fst, Cv.snd, go_sem, Int.reduceTMod, Int.reduceTDiv, Int.reduceDiv, Int.reduceMod, Int.reduceAdd, Int.reduceSub, Int.reduceMul, Int.reduceNeg, Int.reducePow, Int.reduceEq, bne_iff_ne, Int.cast_ofNat_Int, ↓reduceIte, Nat.reduceEqDiff, Nat.reduceAdd, Nat.reduceMul, Nat.reduceLeDiff, Nat.reduceSub, Nat.reduceLT, Int.reduceToNat, Int.reduceLT, Int.reduceLE, reduceCtorEq, Nat.zero_add, Nat.add_zero, and_self, and_true, true_and, ne_eq, not_false_eq_true, not_true_eq_false, decide_true, decide_false, Bool.false_eq_true, Bool.not_true, Bool.not_false, Bool.true_and, Bool.and_true, Bool.or_false, Bool.false_or, Bool.and_self]
    refine fin _ _ ?_ ?_ ?_ ?_ ?_
    · simp only [go_sem, Int.reduceTMod, Int.reduceTDiv, Int.reduceDiv, Int.reduceMod, Int.reduceAdd, Int.reduceSub, Int.reduceMul, Int.reduceNeg, Int.reducePow, Int.reduceEq, bne_iff_ne, Int.cast_ofNat_Int, ↓reduceIte, Nat.reduceEqDiff, Nat.reduceAdd, Nat.reduceMul, Nat.reduceLeDiff, Nat.reduceSub, Nat.reduceLT, Int.reduceToNat, Int.reduceLT, Int.reduceLE, reduceCtorEq, Nat.zero_add, Nat.add_zero, and_self, and_true, true_and, ne_eq, not_false_eq_true, not_true_eq_false, decide_true, decide_false, Bool.false_eq_true, Bool.not_true, Bool.not_false, Bool.true_and, Bool.and_true, Bool.or_false, Bool.false_or, Bool.and_self]
    · simp only [go_sem, Int.reduceTMod, Int.reduceTDiv, Int.reduceDiv, Int.reduceMod, Int.reduceAdd, Int.reduceSub, Int.reduceMul, Int.reduceNeg, Int.reducePow, Int.reduceEq, bne_iff_ne, Int.cast_ofNat_Int, ↓reduceIte, Nat.reduceEqDiff, Nat.reduceAdd, Nat.reduceMul, Nat.reduceLeDiff, Nat.reduceSub, Nat.reduceLT, Int.reduceToNat, Int.reduceLT, Int.reduceLE, reduceCtorEq, Nat.zero_add, Nat.add_zero, and_self, and_true, true_and, ne_eq, not_false_eq_true, not_true_eq_false, decide_true, decide_false, Bool.false_eq_true, Bool.not_true, Bool.not_false, Bool.true_and, Bool.and_true, Bool.or_false, Bool.false_or, Bool.and_self]
    · intro i hi
      simp only [lt0 hi, lt1 hi, go_sem, Int.reduceTMod, Int.reduceTDiv, Int.reduceDiv, Int.reduceMod, Int.reduceAdd, Int.reduceSub, Int.reduceMul, Int.reduceNeg, Int.reducePow, Int.reduceEq, bne_iff_ne, Int.cast_ofNat_Int, ↓reduceIte, Nat.reduceEqDiff, Nat.reduceAdd, Nat.reduceMul, Nat.reduceLeDiff, Nat.reduceSub, Nat.reduceLT, Int.reduceToNat, Int.reduceLT, Int.reduceLE, reduceCtorEq, Nat.zero_add, Nat.add_zero, and_self, and_true, true_and, ne_eq, not_false_eq_true, not_true_eq_false, decide_true, decide_false, Bool.false_eq_true, Bool.not_true, Bool.not_false, Bool.true_and, Bool.and_true, Bool.or_false, Bool.false_or, Bool.and_self]
    · simp only [Cv.row, Cv.fst, go_sem, Int.reduceTMod, Int.reduceTDiv, Int.reduceDiv, Int.reduceMod, Int.reduceAdd, Int.reduceSub, Int.reduceMul, Int.reduceNeg, Int.reducePow, Int.reduceEq, bne_iff_ne, Int.cast_ofNat_Int, ↓reduceIte, Nat.reduceEqDiff, Nat.reduceAdd, Nat.reduceMul, Nat.reduceLeDiff, Nat.reduceSub, Nat.reduceLT, Int.reduceToNat, Int.reduceLT, Int.reduceLE, reduceCtorEq, Nat.zero_add, Nat.add_zero, and_self, and_true, true_and, ne_eq, not_false_eq_true, not_true_eq_false, decide_true, decide_false, Bool.false_eq_true, Bool.not_true, Bool.not_false, Bool.true_and, Bool.and_true, Bool.or_false, Bool.false_or, Bool.and_self]
    · simp only [Cv.row, Cv.snd, go_sem, Int.reduceTMod, Int.reduceTDiv, Int.reduceDiv, Int.reduceMod, Int.reduceAdd, Int.reduceSub, Int.reduceMul, Int.reduceNeg, Int.reducePow, Int.reduceEq, bne_iff_ne, Int.cast_ofNat_Int, ↓reduceIte, Nat.reduceEqDiff, Nat.reduceAdd, Nat.reduceMul, Nat.reduceLeDiff, Nat.reduceSub, Nat.reduceLT, Int.reduceToNat, Int.reduceLT, Int.reduceLE, reduceCtorEq, Nat.zero_add, Nat.add_zero, and_self, and_true, true_and, ne_eq, not_false_eq_true, not_true_eq_false, decide_true, decide_false, Bool.false_eq_true, Bool.not_true, Bool.not_false, Bool.true_and, Bool.and_true, Bool.or_false, Bool.false_or, Bool.and_self]
  | cub a b c d =>
    simp only [List.replicate, Cv.row, Cv.fst, Cv.snd, go_sem, Int.reduceTMod, Int.reduceTDiv, Int.reduceDiv, Int.reduceMod, Int.reduceAdd, Int.reduceSub, Int.reduceMul, Int.reduceNeg, Int.reducePow, Int.reduceEq, bne_iff_ne, Int.cast_ofNat_Int, ↓reduceIte, Nat.reduceEqDiff, Nat.reduceAdd, Nat.reduceMul, Nat.reduceLeDiff, Nat.reduceSub, Nat.reduceLT, Int.reduceToNat, Int.reduceLT, Int.reduceLE, reduceCtorEq, Nat.zero_add, Nat.add_zero, and_self, and_true, true_and, ne_eq, not_false_eq_true, not_true_eq_false, decide_true, decide_false, Bool.false_eq_true, Bool.not_true, Bool.not_false, Bool.true_and, Bool.and_true, Bool.or_false, Bool.false_or, Bool.and_self]
    refine fin _ _ ?_ ?_ ?_ ?_ ?_
    · simp only [go_sem, Int.reduceTMod, Int.reduceTDiv, Int.reduceDiv, Int.reduceMod, Int.reduceAdd, Int.reduceSub, Int.reduceMul, Int.reduceNeg, Int.reducePow, Int.reduceEq, bne_iff_ne, Int.cast_ofNat_Int, ↓reduceIte, Nat.reduceEqDiff, Nat.reduceAdd, Nat.reduceMul, Nat.reduceLeDiff, Nat.reduceSub, Nat.reduceLT, Int.reduceToNat, Int.reduceLT, Int.reduceLE, reduceCtorEq, Nat.zero_add, Nat.add_zero, and_self, and_true, true_and, ne_eq, not_false_eq_true, not_true_eq_false, decide_true, decide_false, Bool.false_eq_true, Bool.not_true, Bool.not_false, Bool.true_and, Bool.and_true, Bool.or_false, Bool.false_or, Bool.and_self]
    · simp only [go_sem, Int.reduceTMod, Int.reduceTDiv, Int.reduceDiv, Int.reduceMod, Int.reduceAdd, Int.reduceSub, Int.reduceMul, Int.reduceNeg, Int.reducePow, Int.reduceEq, bne_iff_ne, Int.cast_ofNat_Int, ↓reduceIte, Nat.reduceEqDiff, Nat.reduceAdd, Nat.reduceMul, Nat.reduceLeDiff, Nat.reduceSub, Nat.reduceLT, Int.reduceToNat, Int.reduceLT, Int.reduceLE, reduceCtorEq, Nat.zero_add, Nat.add_zero, and_self, and_true, true_and, ne_eq, not_false_eq_true, not_true_eq_false, decide_true, decide_false, Bool.false_eq_true, Bool.not_true, Bool.not_false, Bool.true_and, Bool.and_true, Bool.or_false, Bool.false_or, Bool.and_self]
    · intro i hi
      simp only [lt0 hi, lt1 hi, go_sem, Int.reduceTMod, Int.reduceTDiv, Int.reduceDiv, Int.reduceMod, Int.reduceAdd, Int.reduceSub, Int.reduceMul, Int.reduceNeg, Int.reducePow, Int.reduceEq, bne_iff_ne, Int.cast_ofNat_Int, ↓reduceIte, Nat.reduceEqDiff, Nat.reduceAdd, Nat.reduceMul, Nat.reduceLeDiff, Nat.reduceSub, Nat.reduceLT, Int.reduceToNat, Int.reduceLT, Int.reduceLE, reduceCtorEq, Nat.zero_add, Nat.add_zero, and_self, and_true, true_and, ne_eq, not_false_eq_true, not_true_eq_false, decide_true, decide_false, Bool.false_eq_true, Bool.not_true, Bool.not_false, Bool.true_and, Bool.and_true, Bool.or_false, Bool.false_or, Bool.and_self]
    · simp only [Cv.row, Cv.fst, go_sem, Int.reduceTMod, Int.reduceTDiv, Int.reduceDiv, Int.reduceMod, Int.reduceAdd, Int.reduceSub, Int.reduceMul, Int.reduceNeg, Int.reducePow, Int.reduceEq, bne_iff_ne, Int.cast_ofNat_Int, ↓reduceIte, Nat.reduceEqDiff, Nat.reduceAdd, Nat.reduceMul, Nat.reduceLeDiff, Nat.reduceSub, Nat.reduceLT, Int.reduceToNat, Int.reduceLT, Int.reduceLE, reduceCtorEq, Nat.zero_add, Nat.add_zero, and_self, and_true, true_and, ne_eq, not_false_eq_true, not_true_eq_false, decide_true, decide_false, Bool.false_eq_true, Bool.not_true, Bool.not_false, Bool.true_and, Bool.and_true, Bool.or_false, Bool.false_or, Bool.and_self]
    · simp only [Cv.row, Cv.snd, go_sem, Int.reduceTMod, Int.reduceTDiv, Int.reduceDiv, Int.reduceMod, Int.reduceAdd, Int.reduceSub, Int.reduceMul, Int.reduceNeg, Int.reducePow, Int.reduceEq, bne_iff_ne, Int.cast_ofNat_Int, ↓reduceIte, Nat.reduceEqDiff, Nat.reduceAdd, Nat.reduceMul, Nat.reduceLeDiff, Nat.reduceSub, Nat.reduceLT, Int.reduceToNat, Int.reduceLT, Int.reduceLE, reduceCtorEq, Nat.zero_add, Nat.add_zero, and_self, and_true, true_and, ne_eq, not_false_eq_true, not_true_eq_false, decide_true, decide_false, Bool.false_eq_true, Bool.not_true, Bool.not_false, Bool.true_and, Bool.and_true, Bool.or_false, Bool.false_or, Bool.and_self]

end Go.Proofs.YtpleidpbapgmiaaDoor.Sy.Cu

/- The reference's Parts walked. Conditions: those that each theorem names. -/
namespace Go.Proofs.YtpleidpbapgmiaaDoor.Sy
open Go Go.Proofs
set_option linter.unusedSimpArgs false
set_option linter.unusedVariables false
set_option maxRecDepth 20000
attribute [local go_sem] XK_seq XK_block XK_skip XK_exit XK_ret XK_cond XK_reg XK_dreg XK_ureg KN_seq KN_blk KN_lp KN_chk KN_chku KN_top KN_fin KX_seq KX_lp KX_blk KX_chk KX_top KR_seq KR_blk KR_lp KR_chk KR_top KR_fin FK_true FK_false RK_nil RK_mv RK_pick RK_alloc RK_box RK_build RK_bslice RK_load1 RK_loadA RK_store RK_nilchk RK_bin RK_beq RK_eqv RK_eqnil RK_un RK_conv RK_mkfn RK_mkslice RK_slS RK_slA RK_fadr RK_fld RK_iadrA RK_iadrS RK_idxA RK_ext RK_lenC RK_cap RK_app RK_appz RK_pre RK_cpy RK_mn RK_mx RK_len RK_carry RK_clr carryR um0 um1 ThenK_some RK_guard GK_tt GK_ff GK_tf GK_ft GK_none QK_some RK_callQ RK_callZ RK_callT TK_some VK_clo RK_callV
  evalOp evO evOs upd_at unfrz_at putE_some putE_none boolOf_b boolOf_tup Option.map_some evRes pack_one pack_two pack_three pack_none List.getD_cons_zero List.getD_cons_succ getD_nil
  Option.some.injEq exists_eq_left' Reg.cs? fillC setL List.set_cons_zero List.set_cons_succ List.length_cons List.length_nil rd_upd rd_updn rdB wr List.drop_zero List.drop_succ_cons List.take_succ_cons List.take_zero List.getElem?_cons_zero List.getElem?_cons_succ
  ix Int.toNat_zero lenO_sl lenO_nil nadd na_eq na_eq' na_lt na_ee na_ll na_ne na_ne' na_tt
attribute [local go_sem] Reg.flat_one Reg.flat_agg Reg.flat_tup flats_nil flats_cons Cell.flat_sc Cell.flat_ptr List.all_cons List.all_nil disOk safeOk safeR decide_eq_true_eq decide_eq_false_iff_not
  List.map_cons List.map_nil List.cons_append List.nil_append List.append_nil evalOp.capsOf Bool.false_bne Bool.bne_false Bool.true_bne Bool.bne_true bne_self_eq_false beq_self_eq_true Bool.not_not Bool.false_and Bool.and_false Bool.true_or Bool.or_true beq_iff_eq eqCells
  Bool.true_beq Bool.false_beq Bool.not_eq_true' Bool.not_eq_eq_eq_not Bool.not_eq_false' and_false false_and frz_at idOf noId Option.isSome_some Bool.and_eq_true
attribute [local go_sem] wr_eq bV_add bV_sub bV_mul bV_eql bV_neq bV_lss bV_leq bV_gtr bV_geq bV_quo bV_rem bV_shr bV_shl uV_not uV_neg wrapU bits_and bits_or bits_xor IntKind.bits Nat.min_eq_left Nat.min_eq_right Nat.min_self
attribute [local go_sem] bne_iff_ne Int.cast_ofNat_Int Nat.zero_add Nat.add_zero and_self and_true true_and ne_eq not_false_eq_true not_true_eq_false decide_true decide_false Bool.false_eq_true Bool.not_true Bool.not_false Bool.true_and Bool.and_true Bool.or_false Bool.false_or Bool.and_self

theorem XK_pu {T : Nat → Option SFun} {j f : Nat} {args : List O} {es : List Nat} {dis : List (Nat × Nat)} {os : List SOper} {s : St} {k : Kt} (P : (Nat → Reg) → Prop) (h1 : RK T (os.take j) s.e s.m s.n (.top fun _ s1 => P s1.e))
    (h2 : ∀ e, P e → safeOk s.m e (usesOs args) = true ∧ Fn T f (evOs e args) (frz s.m) s.n (fun r _ _ => r.flat = true ∧ XK T (.ureg es dis (setOp os j (.pre r args))) s k)) : XK T (.pureg j f args es dis os) s k := by
  refine XK_pureg ?_
  obtain ⟨k, e, m, n, h, hq⟩ := h1
  exact ⟨k, e, m, n, h, h2 e hq⟩
set_option maxHeartbeats 8000000 in
theorem v_Parts {r : Reg} {l : List Sg} {q s : Sg} {fr : Pt} {i : Nat} {m : Mem} {n : Nat} (hr : RSg m n r l) (hs : l[i]? = some s) (hq : l[i - 1]? = some q) (hi : 0 < i) (hi2 : i < 1000000) (hn : 1 ≤ need q.k) (hfe : ptJ q ((need q.k).toNat - 1) = fr)
    (hk : s.k = 2 ∨ s.k = 3 ∨ s.k = 4) (hfr : inP fr = true) (hin : (s.pts.take (need s.k).toNat).all inP = true) :
    callF TA 19 [r, RI i] m n = some (.tup [.agg (spA fr s).cs, .agg (spB fr s).cs]) := by
  refine callF_of (Fn_ofK (fn := F19) rfl (by simp [F19]) ?_)
  have hil : i < l.length := (List.getElem?_eq_some_iff.1 hs).1
  have c2 : ((i : Int) < (l.length : Int)) = True := eq_true (by omega)
  have c3 : (0 ≤ (i : Int)) = True := eq_true (by omega)
  try simp only [r19_0, r19_1, r19_2, r19_3, r19_4, r19_5, r19_6, r19_7, r19_8, r19_10, r19_9, r19_11, r19_12, r19_13, r19_15, r19_16, r19_14, r19_17, c19, F19, go_sem, Int.reduceTMod, Int.reduceTDiv, Int.reduceDiv, Int.reduceMod, Int.reduceAdd, Int.reduceSub, Int.reduceMul, Int.reduceNeg, Int.reducePow, Int.reduceEq, ↓reduceIte, Nat.reduceEqDiff, Nat.reduceAdd, Nat.reduceMul, Nat.reduceLeDiff, Nat.reduceSub, Nat.reduceLT, Int.reduceToNat, Int.reduceLT, Int.reduceLE, reduceCtorEq]
  repeat' ((first | refine FK_split (fun h_ => ?_) (fun h_ => ?_) | refine GK_split (fun h_ => ?_) (fun h_ => ?_) | refine ite_both (fun h_ => ?_) (fun h_ => ?_)) <;> (try simp only [decide_eq_true_eq, decide_eq_false_iff_not, Bool.not_true, Bool.not_false, Bool.not_eq_true', Bool.not_eq_false', Bool.not_eq_eq_eq_not, Decidable.not_not] at h_) <;> (try simp only [r19_0, r19_1, r19_2, r19_3, r19_4, r19_5, r19_6, r19_7, r19_8, r19_10, r19_9, r19_11, r19_12, r19_13, r19_15, r19_16, r19_14, r19_17, c19, F19, h_, go_sem, Int.reduceTMod, Int.reduceTDiv, Int.reduceDiv, Int.reduceMod, Int.reduceAdd, Int.reduceSub, Int.reduceMul, Int.reduceNeg, Int.reducePow, Int.reduceEq, ↓reduceIte, Nat.reduceEqDiff, Nat.reduceAdd, Nat.reduceMul, Nat.reduceLeDiff, Nat.reduceSub, Nat.reduceLT, Int.reduceToNat, Int.reduceLT, Int.reduceLE, reduceCtorEq]))
  obtain ⟨M0, hM0⟩ : ∃ M0, M0 = upd (upd m n (some ⟨[I 0, I 0, I 0, I 0, I 0, I 0, I 0], true⟩)) (n + 1) (some ⟨[I 0, I 0, I 0, I 0, I 0, I 0, I 0], true⟩) := ⟨_, rfl⟩
  rw [← hM0]
  have hb4 : M0 n = some ⟨[I 0, I 0, I 0, I 0, I 0, I 0, I 0], true⟩ := by rw [hM0, upd_ne _ _ (by omega), upd_same]
  have hb5 : M0 (n + 1) = some ⟨[I 0, I 0, I 0, I 0, I 0, I 0, I 0], true⟩ := by rw [hM0, upd_same]
  have hr0 : RSg M0 (n + 2) r l := hr.keep (by omega) (fun id hid => by rw [hM0, upd_ne _ _ (by omega), upd_ne _ _ (by omega)])
  clear hM0 hr
  have vF := v_From hr0.frz hq hi hi2 hn
  rw [hfe] at vF
  obtain ⟨id, off, cap, rfl, hid, hrd⟩ := hr0.at cs7 hs
  obtain ⟨b, hb1, hb2⟩ := rd_cell hrd (a := 0) (c := I s.k) rfl
  have n0 := na_0 hid
  refine XK_pu (fun e => e 19 = .one (.sl id off l.length cap 7) ∧ e 20 = RI i) ?_ (fun e he => ⟨?_, ?_⟩)
  · skip
    try simp only [r19_1, c2, c3, n0, hb1, hrd, Int.toNat_natCast, go_sem, Int.reduceTMod, Int.reduceTDiv, Int.reduceDiv, Int.reduceMod, Int.reduceAdd, Int.reduceSub, Int.reduceMul, Int.reduceNeg, Int.reducePow, Int.reduceEq, ↓reduceIte, Nat.reduceEqDiff, Nat.reduceAdd, Nat.reduceMul, Nat.reduceLeDiff, Nat.reduceSub, Nat.reduceLT, Int.reduceToNat, Int.reduceLT, Int.reduceLE, reduceCtorEq]
    repeat' ((first | refine FK_split (fun h_ => ?_) (fun h_ => ?_) | refine GK_split (fun h_ => ?_) (fun h_ => ?_) | refine ite_both (fun h_ => ?_) (fun h_ => ?_)) <;> (try simp only [decide_eq_true_eq, decide_eq_false_iff_not, Bool.not_true, Bool.not_false, Bool.not_eq_true', Bool.not_eq_false', Bool.not_eq_eq_eq_not, Decidable.not_not] at h_) <;> (try simp only [r19_1, c2, c3, n0, hb1, hrd, Int.toNat_natCast, h_, go_sem, Int.reduceTMod, Int.reduceTDiv, Int.reduceDiv, Int.reduceMod, Int.reduceAdd, Int.reduceSub, Int.reduceMul, Int.reduceNeg, Int.reducePow, Int.reduceEq, ↓reduceIte, Nat.reduceEqDiff, Nat.reduceAdd, Nat.reduceMul, Nat.reduceLeDiff, Nat.reduceSub, Nat.reduceLT, Int.reduceToNat, Int.reduceLT, Int.reduceLE, reduceCtorEq]))
  · obtain ⟨e1, e2⟩ := he
    show (safeR M0 (e 19) && (safeR M0 (e 20) && true)) = true
    rw [e1, e2]
    simp [safeR, hb1, Reg.flat, Cell.flat]
  obtain ⟨e1, e2⟩ := he
  show Fn TA _ [e 19, e 20] _ _ _
  rw [e1, e2]
  refine (Fn_callF vF).mono ?_
  rintro _ _ _ rfl
  refine ⟨rfl, ?_⟩
  by_cases hk2 : s.k = 2
  · have hsa : inP s.a = true := by
      rw [hk2] at hin
      simpa [need, Sg.pts] using hin
    have vM : callF TA 46 [.agg [I fr.x, I fr.y], .agg [I s.a.x, I s.a.y]] (fun _ => none) 1 = some (.agg [I (Cu.mid fr s.a).x, I (Cu.mid fr s.a).y]) := callF_of (Cu.Mid48 fr s.a hfr hsa _ _)
    have eA : spA fr s = ⟨2, Cu.mid fr s.a, s.b, s.c⟩ := by unfold spA; rw [if_pos hk2, hk2]
    have eB : spB fr s = s := if_pos hk2
    rw [eA, eB]
    generalize Cu.mid fr s.a = mp at *
    try simp only [XK_ureg, setOp, r19_1, c2, c3, n0, hb1, hrd, hk2, vM, hb4, hb5, Int.toNat_natCast, go_sem, Int.reduceTMod, Int.reduceTDiv, Int.reduceDiv, Int.reduceMod, Int.reduceAdd, Int.reduceSub, Int.reduceMul, Int.reduceNeg, Int.reducePow, Int.reduceEq, ↓reduceIte, Nat.reduceEqDiff, Nat.reduceAdd, Nat.reduceMul, Nat.reduceLeDiff, Nat.reduceSub, Nat.reduceLT, Int.reduceToNat, Int.reduceLT, Int.reduceLE, reduceCtorEq]
    repeat' ((first | refine FK_split (fun h_ => ?_) (fun h_ => ?_) | refine GK_split (fun h_ => ?_) (fun h_ => ?_) | refine ite_both (fun h_ => ?_) (fun h_ => ?_)) <;> (try simp only [decide_eq_true_eq, decide_eq_false_iff_not, Bool.not_true, Bool.not_false, Bool.not_eq_true', Bool.not_eq_false', Bool.not_eq_eq_eq_not, Decidable.not_not] at h_) <;> (try simp only [XK_ureg, setOp, r19_1, c2, c3, n0, hb1, hrd, hk2, vM, hb4, hb5, Int.toNat_natCast, h_, go_sem, Int.reduceTMod, Int.reduceTDiv, Int.reduceDiv, Int.reduceMod, Int.reduceAdd, Int.reduceSub, Int.reduceMul, Int.reduceNeg, Int.reducePow, Int.reduceEq, ↓reduceIte, Nat.reduceEqDiff, Nat.reduceAdd, Nat.reduceMul, Nat.reduceLeDiff, Nat.reduceSub, Nat.reduceLT, Int.reduceToNat, Int.reduceLT, Int.reduceLE, reduceCtorEq]))
    simp only [Sg.cs, hk2]
  have hk34 : s.k = 3 ∨ s.k = 4 := by omega
  have hnb := need_bd s.k
  have hNd : need s.k = (((need s.k).toNat : Nat) : Int) := by omega
  have vN := v_rNeed s.k
  rw [hNd] at vN
  try simp only [XK_ureg, setOp, r19_1, c2, c3, n0, hb1, hrd, hk2, hb4, hb5, Int.toNat_natCast, go_sem, Int.reduceTMod, Int.reduceTDiv, Int.reduceDiv, Int.reduceMod, Int.reduceAdd, Int.reduceSub, Int.reduceMul, Int.reduceNeg, Int.reducePow, Int.reduceEq, ↓reduceIte, Nat.reduceEqDiff, Nat.reduceAdd, Nat.reduceMul, Nat.reduceLeDiff, Nat.reduceSub, Nat.reduceLT, Int.reduceToNat, Int.reduceLT, Int.reduceLE, reduceCtorEq]
  repeat' ((first | refine FK_split (fun h_ => ?_) (fun h_ => ?_) | refine GK_split (fun h_ => ?_) (fun h_ => ?_) | refine ite_both (fun h_ => ?_) (fun h_ => ?_)) <;> (try simp only [decide_eq_true_eq, decide_eq_false_iff_not, Bool.not_true, Bool.not_false, Bool.not_eq_true', Bool.not_eq_false', Bool.not_eq_eq_eq_not, Decidable.not_not] at h_) <;> (try simp only [XK_ureg, setOp, r19_1, c2, c3, n0, hb1, hrd, hk2, hb4, hb5, Int.toNat_natCast, h_, go_sem, Int.reduceTMod, Int.reduceTDiv, Int.reduceDiv, Int.reduceMod, Int.reduceAdd, Int.reduceSub, Int.reduceMul, Int.reduceNeg, Int.reducePow, Int.reduceEq, ↓reduceIte, Nat.reduceEqDiff, Nat.reduceAdd, Nat.reduceMul, Nat.reduceLeDiff, Nat.reduceSub, Nat.reduceLT, Int.reduceToNat, Int.reduceLT, Int.reduceLE, reduceCtorEq]))
  refine XK_iter (inv := fun j st => st.e 11 = RI j ∧ st.e 6 = .one (.ptr (n + 2) 0) ∧ st.e 8 = .one (.ptr (n + 4) 0) ∧ st.e 9 = .one (.ptr (n + 5) 0) ∧ st.e 4 = .one (.ptr n 0) ∧ st.e 5 = .one (.ptr (n + 1) 0) ∧ n + 6 ≤ st.n ∧
      st.m (n + 2) = some ⟨s.cs, true⟩ ∧ st.m (n + 4) = some ⟨s.cs, true⟩ ∧ st.m (n + 5) = some ⟨s.cs, true⟩ ∧ st.m n = some ⟨[I 0, I 0, I 0, I 0, I 0, I 0, I 0], true⟩ ∧ st.m (n + 1) = some ⟨[I 0, I 0, I 0, I 0, I 0, I 0, I 0], true⟩ ∧
      ∃ c9, st.e 10 = .one c9 ∧ OPd (n + 6) st.m st.n c9 (fr :: s.pts.take j)) (need s.k).toNat
      (fun L2 _ => ⟨fun j hj st hst next2 => ?_, fun st hst => ?_⟩) 0 (by omega) _ ?_
  · obtain ⟨e4, M4, N4⟩ := st
    obtain ⟨t11, t6, t8, t9, t4, t5, tn, b2, b4, b5, b0, b1, c9, t10, tO⟩ := hst
    simp only at t11 t6 t8 t9 t4 t5 tn b2 b4 b5 b0 b1 t10 tO
    have g1 : ((j : Int) < (((need s.k).toNat : Nat) : Int)) = True := eq_true (by omega)
    have g2 : (0 ≤ (j : Int)) = True := eq_true (by omega)
    have g3 : ((j : Int) < 3) = True := eq_true (by omega)
    have g4 : ((j : Int) < ((3 : Nat) : Int)) = True := eq_true (by omega)
    have g5 : IntKind.i64.wrap ((j : Int) + 1) = ((j + 1 : Nat) : Int) := wr_nat (by omega)
    have hptj := pt_cell (j := j) b2 (by omega)
    have htp := take_pt (s := s) (show j < 3 by omega)
    try simp only [r19_0, r19_1, r19_2, r19_3, r19_4, r19_5, r19_6, r19_7, r19_8, r19_10, r19_9, r19_11, r19_12, r19_13, r19_15, r19_16, r19_14, r19_17, c19, F19, l19_0, t11, t6, t10, b2, vN, g1, g2, g3, g4, hptj, Int.toNat_natCast, go_sem, Int.reduceTMod, Int.reduceTDiv, Int.reduceDiv, Int.reduceMod, Int.reduceAdd, Int.reduceSub, Int.reduceMul, Int.reduceNeg, Int.reducePow, Int.reduceEq, ↓reduceIte, Nat.reduceEqDiff, Nat.reduceAdd, Nat.reduceMul, Nat.reduceLeDiff, Nat.reduceSub, Nat.reduceLT, Int.reduceToNat, Int.reduceLT, Int.reduceLE, reduceCtorEq]
    repeat' ((first | refine FK_split (fun h_ => ?_) (fun h_ => ?_) | refine GK_split (fun h_ => ?_) (fun h_ => ?_) | refine ite_both (fun h_ => ?_) (fun h_ => ?_)) <;> (try simp only [decide_eq_true_eq, decide_eq_false_iff_not, Bool.not_true, Bool.not_false, Bool.not_eq_true', Bool.not_eq_false', Bool.not_eq_eq_eq_not, Decidable.not_not] at h_) <;> (try simp only [r19_0, r19_1, r19_2, r19_3, r19_4, r19_5, r19_6, r19_7, r19_8, r19_10, r19_9, r19_11, r19_12, r19_13, r19_15, r19_16, r19_14, r19_17, c19, F19, l19_0, t11, t6, t10, b2, vN, g1, g2, g3, g4, hptj, Int.toNat_natCast, h_, go_sem, Int.reduceTMod, Int.reduceTDiv, Int.reduceDiv, Int.reduceMod, Int.reduceAdd, Int.reduceSub, Int.reduceMul, Int.reduceNeg, Int.reducePow, Int.reduceEq, ↓reduceIte, Nat.reduceEqDiff, Nat.reduceAdd, Nat.reduceMul, Nat.reduceLeDiff, Nat.reduceSub, Nat.reduceLT, Int.reduceToNat, Int.reduceLT, Int.reduceLE, reduceCtorEq]))
    refine K_appD (xs := [ptJ s j]) (nx := N4 + 1) tO (by omega) (fun j' hj' => by have := tO.lt hj'; exact upd_ne _ _ (by omega)) (one_pt (o := true) (by omega) (upd_same _ _ _)) (by simp) (by simp only [List.length_cons, List.length_nil, List.length_take]; have : s.pts.length = 3 := rfl; omega) (by omega) ?_
    intro c' M' ho hf hs'
    have keep : ∀ id, id < n + 6 → M' id = M4 id := fun id hid => by rw [hf id (by omega) (fun h => by have := tO.lt h; omega), upd_ne _ _ (by omega)]
    try simp only [r19_0, r19_1, r19_2, r19_3, r19_4, r19_5, r19_6, r19_7, r19_8, r19_10, r19_9, r19_11, r19_12, r19_13, r19_15, r19_16, r19_14, r19_17, c19, F19, t11, g5, go_sem, Int.reduceTMod, Int.reduceTDiv, Int.reduceDiv, Int.reduceMod, Int.reduceAdd, Int.reduceSub, Int.reduceMul, Int.reduceNeg, Int.reducePow, Int.reduceEq, ↓reduceIte, Nat.reduceEqDiff, Nat.reduceAdd, Nat.reduceMul, Nat.reduceLeDiff, Nat.reduceSub, Nat.reduceLT, Int.reduceToNat, Int.reduceLT, Int.reduceLE, reduceCtorEq]
    repeat' ((first | refine FK_split (fun h_ => ?_) (fun h_ => ?_) | refine GK_split (fun h_ => ?_) (fun h_ => ?_) | refine ite_both (fun h_ => ?_) (fun h_ => ?_)) <;> (try simp only [decide_eq_true_eq, decide_eq_false_iff_not, Bool.not_true, Bool.not_false, Bool.not_eq_true', Bool.not_eq_false', Bool.not_eq_eq_eq_not, Decidable.not_not] at h_) <;> (try simp only [r19_0, r19_1, r19_2, r19_3, r19_4, r19_5, r19_6, r19_7, r19_8, r19_10, r19_9, r19_11, r19_12, r19_13, r19_15, r19_16, r19_14, r19_17, c19, F19, t11, g5, h_, go_sem, Int.reduceTMod, Int.reduceTDiv, Int.reduceDiv, Int.reduceMod, Int.reduceAdd, Int.reduceSub, Int.reduceMul, Int.reduceNeg, Int.reducePow, Int.reduceEq, ↓reduceIte, Nat.reduceEqDiff, Nat.reduceAdd, Nat.reduceMul, Nat.reduceLeDiff, Nat.reduceSub, Nat.reduceLT, Int.reduceToNat, Int.reduceLT, Int.reduceLE, reduceCtorEq]))
    refine next2 _ ⟨?_, ?_, ?_, ?_, ?_, ?_, ?_, ?_, ?_, ?_, ?_, ?_, c', ?_, ?_⟩
    · simp only [go_sem, Int.reduceTMod, Int.reduceTDiv, Int.reduceDiv, Int.reduceMod, Int.reduceAdd, Int.reduceSub, Int.reduceMul, Int.reduceNeg, Int.reducePow, Int.reduceEq, ↓reduceIte, Nat.reduceEqDiff, Nat.reduceAdd, Nat.reduceMul, Nat.reduceLeDiff, Nat.reduceSub, Nat.reduceLT, Int.reduceToNat, Int.reduceLT, Int.reduceLE, reduceCtorEq]
    · simp only [t6, go_sem, Int.reduceTMod, Int.reduceTDiv, Int.reduceDiv, Int.reduceMod, Int.reduceAdd, Int.reduceSub, Int.reduceMul, Int.reduceNeg, Int.reducePow, Int.reduceEq, ↓reduceIte, Nat.reduceEqDiff, Nat.reduceAdd, Nat.reduceMul, Nat.reduceLeDiff, Nat.reduceSub, Nat.reduceLT, Int.reduceToNat, Int.reduceLT, Int.reduceLE, reduceCtorEq]
    · simp only [t8, go_sem, Int.reduceTMod, Int.reduceTDiv, Int.reduceDiv, Int.reduceMod, Int.reduceAdd, Int.reduceSub, Int.reduceMul, Int.reduceNeg, Int.reducePow, Int.reduceEq, ↓reduceIte, Nat.reduceEqDiff, Nat.reduceAdd, Nat.reduceMul, Nat.reduceLeDiff, Nat.reduceSub, Nat.reduceLT, Int.reduceToNat, Int.reduceLT, Int.reduceLE, reduceCtorEq]
    · simp only [t9, go_sem, Int.reduceTMod, Int.reduceTDiv, Int.reduceDiv, Int.reduceMod, Int.reduceAdd, Int.reduceSub, Int.reduceMul, Int.reduceNeg, Int.reducePow, Int.reduceEq, ↓reduceIte, Nat.reduceEqDiff, Nat.reduceAdd, Nat.reduceMul, Nat.reduceLeDiff, Nat.reduceSub, Nat.reduceLT, Int.reduceToNat, Int.reduceLT, Int.reduceLE, reduceCtorEq]
    · simp only [t4, go_sem, Int.reduceTMod, Int.reduceTDiv, Int.reduceDiv, Int.reduceMod, Int.reduceAdd, Int.reduceSub, Int.reduceMul, Int.reduceNeg, Int.reducePow, Int.reduceEq, ↓reduceIte, Nat.reduceEqDiff, Nat.reduceAdd, Nat.reduceMul, Nat.reduceLeDiff, Nat.reduceSub, Nat.reduceLT, Int.reduceToNat, Int.reduceLT, Int.reduceLE, reduceCtorEq]
    · simp only [t5, go_sem, Int.reduceTMod, Int.reduceTDiv, Int.reduceDiv, Int.reduceMod, Int.reduceAdd, Int.reduceSub, Int.reduceMul, Int.reduceNeg, Int.reducePow, Int.reduceEq, ↓reduceIte, Nat.reduceEqDiff, Nat.reduceAdd, Nat.reduceMul, Nat.reduceLeDiff, Nat.reduceSub, Nat.reduceLT, Int.reduceToNat, Int.reduceLT, Int.reduceLE, reduceCtorEq]
    · simp only; omega
    · simp only; rw [keep _ (by omega)]; exact b2
    · simp only; rw [keep _ (by omega)]; exact b4
    · simp only; rw [keep _ (by omega)]; exact b5
    · simp only; rw [keep _ (by omega)]; exact b0
    · simp only; rw [keep _ (by omega)]; exact b1
    · simp only [go_sem, Int.reduceTMod, Int.reduceTDiv, Int.reduceDiv, Int.reduceMod, Int.reduceAdd, Int.reduceSub, Int.reduceMul, Int.reduceNeg, Int.reducePow, Int.reduceEq, ↓reduceIte, Nat.reduceEqDiff, Nat.reduceAdd, Nat.reduceMul, Nat.reduceLeDiff, Nat.reduceSub, Nat.reduceLT, Int.reduceToNat, Int.reduceLT, Int.reduceLE, reduceCtorEq]
    · simp only
      rw [htp, ← List.cons_append]
      exact ho
  · obtain ⟨e4, M4, N4⟩ := st
    obtain ⟨t11, t6, t8, t9, t4, t5, tn, b2, b4, b5, b0, b1, c9, t10, tO⟩ := hst
    simp only at t11 t6 t8 t9 t4 t5 tn b2 b4 b5 b0 b1 t10 tO
    have g1 : ((((need s.k).toNat : Nat) : Int) < (((need s.k).toNat : Nat) : Int)) = False := eq_false (by omega)
    rw [← cv_pts hk34] at tO
    have hv := cv_in hk34 hfr hin
    have eA : spA fr s = cvS s (cvOf fr s).fst := if_neg hk2
    have eB : spB fr s = cvS s (cvOf fr s).snd := if_neg hk2
    rw [eA, eB]
    have w3 : s.k = 3 → cvOf fr s = .quad fr s.a s.b := fun h => if_pos h
    have w4 : s.k = 4 → cvOf fr s = .cub fr s.a s.b s.c := fun h => if_neg (by omega)
    clear eA eB
    generalize cvOf fr s = v at *
    have hlen := tO.rl.len
    have hpl : v.pts.length ≤ 4 := by rcases Cu.pts_len v with h | h <;> omega
    try simp only [l19_0, r19_0, r19_1, r19_2, r19_3, r19_4, r19_5, r19_6, r19_7, r19_8, r19_10, r19_9, r19_11, r19_12, r19_13, r19_15, r19_16, r19_14, r19_17, c19, F19, t11, t6, t10, b2, vN, g1, go_sem, Int.reduceTMod, Int.reduceTDiv, Int.reduceDiv, Int.reduceMod, Int.reduceAdd, Int.reduceSub, Int.reduceMul, Int.reduceNeg, Int.reducePow, Int.reduceEq, ↓reduceIte, Nat.reduceEqDiff, Nat.reduceAdd, Nat.reduceMul, Nat.reduceLeDiff, Nat.reduceSub, Nat.reduceLT, Int.reduceToNat, Int.reduceLT, Int.reduceLE, reduceCtorEq]
    repeat' ((first | refine FK_split (fun h_ => ?_) (fun h_ => ?_) | refine GK_split (fun h_ => ?_) (fun h_ => ?_) | refine ite_both (fun h_ => ?_) (fun h_ => ?_)) <;> (try simp only [decide_eq_true_eq, decide_eq_false_iff_not, Bool.not_true, Bool.not_false, Bool.not_eq_true', Bool.not_eq_false', Bool.not_eq_eq_eq_not, Decidable.not_not] at h_) <;> (try simp only [l19_0, r19_0, r19_1, r19_2, r19_3, r19_4, r19_5, r19_6, r19_7, r19_8, r19_10, r19_9, r19_11, r19_12, r19_13, r19_15, r19_16, r19_14, r19_17, c19, F19, t11, t6, t10, b2, vN, g1, h_, go_sem, Int.reduceTMod, Int.reduceTDiv, Int.reduceDiv, Int.reduceMod, Int.reduceAdd, Int.reduceSub, Int.reduceMul, Int.reduceNeg, Int.reducePow, Int.reduceEq, ↓reduceIte, Nat.reduceEqDiff, Nat.reduceAdd, Nat.reduceMul, Nat.reduceLeDiff, Nat.reduceSub, Nat.reduceLT, Int.reduceToNat, Int.reduceLT, Int.reduceLE, reduceCtorEq]))
    refine RK_callk ?_
    show Fn TA _ [.one c9] (frz M4) N4 _
    refine (Cu.Halves46 (.one c9) v.pts (frz M4) N4 (pt_rp tO.rl.frz) (by omega) (Cu.pts_in hv)).mono ?_
    rintro _ m5 n5 ⟨ra, rb, rfl, hn5, _, hA, hB⟩
    rw [Cu.firsts_cv] at hA
    rw [Cu.lasts_cv] at hB
    rw [show max N4 n5 = n5 by omega]
    have keep : ∀ id, id < n + 6 → unfrz M4 N4 m5 id = M4 id := fun id hid => by rw [unfrz_at, if_pos (by omega)]
    have b2' : unfrz M4 N4 m5 (n + 2) = some ⟨s.cs, true⟩ := by rw [keep _ (by omega)]; exact b2
    have b4' : unfrz M4 N4 m5 (n + 4) = some ⟨s.cs, true⟩ := by rw [keep _ (by omega)]; exact b4
    have b5' : unfrz M4 N4 m5 (n + 5) = some ⟨s.cs, true⟩ := by rw [keep _ (by omega)]; exact b5
    have b0' : unfrz M4 N4 m5 n = some ⟨[I 0, I 0, I 0, I 0, I 0, I 0, I 0], true⟩ := by rw [keep _ (by omega)]; exact b0
    have b1' : unfrz M4 N4 m5 (n + 1) = some ⟨[I 0, I 0, I 0, I 0, I 0, I 0, I 0], true⟩ := by rw [keep _ (by omega)]; exact b1
    have hA' := (Cu.Sn.unfrz (m := M4) hA)
    have hB' := (Cu.Sn.unfrz (m := M4) hB)
    generalize unfrz M4 N4 m5 = M5 at *
    have p0 : 0 < v.fst.pts.length := by rcases Cu.pts_len v.fst with h | h <;> omega
    have p1 : 0 < v.snd.pts.length := by rcases Cu.pts_len v.snd with h | h <;> omega
    obtain ⟨ia, oa, ca, rfl, hia, hra⟩ := hA'.1.resolve_left (fun h => by omega)
    obtain ⟨ib, ob, cb, rfl, hib, hrb⟩ := hB'.1.resolve_left (fun h => by omega)
    have la := hA'.2 ia rfl
    have lb := hB'.2 ib rfl
    have xa := fun j (hj : j < v.fst.pts.length) => rd_at cs2 hra (List.getElem?_eq_getElem hj)
    have xb := fun j (hj : j < v.snd.pts.length) => rd_at cs2 hrb (List.getElem?_eq_getElem hj)
    have ea4 : (ia = n + 4) = False := eq_false (by omega)
    have ea5 : (ia = n + 5) = False := eq_false (by omega)
    have eb4 : (ib = n + 4) = False := eq_false (by omega)
    have eb5 : (ib = n + 5) = False := eq_false (by omega)
    rcases hk34 with hk3 | hk3
    · obtain rfl := w3 hk3
      have xa1 := xa 1 (by simp [Cu.Cv.fst, Cu.Cv.pts])
      have xa2 := xa 2 (by simp [Cu.Cv.fst, Cu.Cv.pts])
      have xb1 := xb 1 (by simp [Cu.Cv.snd, Cu.Cv.pts])
      have xb2 := xb 2 (by simp [Cu.Cv.snd, Cu.Cv.pts])
      simp only [Cu.Cv.fst, Cu.Cv.snd, Cu.Cv.pts, cvS, List.getElem_cons_succ, List.getElem_cons_zero, List.length_cons, List.length_nil, Nat.zero_add, Nat.reduceAdd] at xa1 xa2 xb1 xb2 hlen ⊢
      generalize Cu.mid fr s.a = p1 at *
      generalize Cu.mid s.a s.b = p2 at *
      generalize Cu.mid p1 p2 = p3 at *
      try simp only [r19_0, r19_1, r19_2, r19_3, r19_4, r19_5, r19_6, r19_7, r19_8, r19_10, r19_9, r19_11, r19_12, r19_13, r19_15, r19_16, r19_14, r19_17, c19, F19, l19_1, XK_loop, t10, t8, t9, t4, t5, hlen, xa1, xa2, xb1, xb2, b2', b4', b5', b0', b1', ea4, ea5, eb4, eb5, go_sem, Int.reduceTMod, Int.reduceTDiv, Int.reduceDiv, Int.reduceMod, Int.reduceAdd, Int.reduceSub, Int.reduceMul, Int.reduceNeg, Int.reducePow, Int.reduceEq, ↓reduceIte, Nat.reduceEqDiff, Nat.reduceAdd, Nat.reduceMul, Nat.reduceLeDiff, Nat.reduceSub, Nat.reduceLT, Int.reduceToNat, Int.reduceLT, Int.reduceLE, reduceCtorEq]
      repeat' ((first | refine FK_split (fun h_ => ?_) (fun h_ => ?_) | refine GK_split (fun h_ => ?_) (fun h_ => ?_) | refine ite_both (fun h_ => ?_) (fun h_ => ?_)) <;> (try simp only [decide_eq_true_eq, decide_eq_false_iff_not, Bool.not_true, Bool.not_false, Bool.not_eq_true', Bool.not_eq_false', Bool.not_eq_eq_eq_not, Decidable.not_not] at h_) <;> (try simp only [r19_0, r19_1, r19_2, r19_3, r19_4, r19_5, r19_6, r19_7, r19_8, r19_10, r19_9, r19_11, r19_12, r19_13, r19_15, r19_16, r19_14, r19_17, c19, F19, l19_1, XK_loop, t10, t8, t9, t4, t5, hlen, xa1, xa2, xb1, xb2, b2', b4', b5', b0', b1', ea4, ea5, eb4, eb5, h_, go_sem, Int.reduceTMod, Int.reduceTDiv, Int.reduceDiv, Int.reduceMod, Int.reduceAdd, Int.reduceSub, Int.reduceMul, Int.reduceNeg, Int.reducePow, Int.reduceEq, ↓reduceIte, Nat.reduceEqDiff, Nat.reduceAdd, Nat.reduceMul, Nat.reduceLeDiff, Nat.reduceSub, Nat.reduceLT, Int.reduceToNat, Int.reduceLT, Int.reduceLE, reduceCtorEq]))
    · obtain rfl := w4 hk3
      have xa1 := xa 1 (by simp [Cu.Cv.fst, Cu.Cv.pts])
      have xa2 := xa 2 (by simp [Cu.Cv.fst, Cu.Cv.pts])
      have xa3 := xa 3 (by simp [Cu.Cv.fst, Cu.Cv.pts])
      have xb1 := xb 1 (by simp [Cu.Cv.snd, Cu.Cv.pts])
      have xb2 := xb 2 (by simp [Cu.Cv.snd, Cu.Cv.pts])
      have xb3 := xb 3 (by simp [Cu.Cv.snd, Cu.Cv.pts])
      simp only [Cu.Cv.fst, Cu.Cv.snd, Cu.Cv.pts, cvS, List.getElem_cons_succ, List.getElem_cons_zero, List.length_cons, List.length_nil, Nat.zero_add, Nat.reduceAdd] at xa1 xa2 xa3 xb1 xb2 xb3 hlen ⊢
      generalize Cu.mid fr s.a = p1 at *
      generalize Cu.mid s.a s.b = p2 at *
      generalize Cu.mid s.b s.c = p3 at *
      generalize Cu.mid p1 p2 = p4 at *
      generalize Cu.mid p2 p3 = p5 at *
      generalize Cu.mid p4 p5 = p6 at *
      try simp only [r19_0, r19_1, r19_2, r19_3, r19_4, r19_5, r19_6, r19_7, r19_8, r19_10, r19_9, r19_11, r19_12, r19_13, r19_15, r19_16, r19_14, r19_17, c19, F19, l19_1, XK_loop, t10, t8, t9, t4, t5, hlen, xa1, xa2, xa3, xb1, xb2, xb3, b2', b4', b5', b0', b1', ea4, ea5, eb4, eb5, go_sem, Int.reduceTMod, Int.reduceTDiv, Int.reduceDiv, Int.reduceMod, Int.reduceAdd, Int.reduceSub, Int.reduceMul, Int.reduceNeg, Int.reducePow, Int.reduceEq, ↓reduceIte, Nat.reduceEqDiff, Nat.reduceAdd, Nat.reduceMul, Nat.reduceLeDiff, Nat.reduceSub, Nat.reduceLT, Int.reduceToNat, Int.reduceLT, Int.reduceLE, reduceCtorEq]
      repeat' ((first | refine FK_split (fun h_ => ?_) (fun h_ => ?_) | refine GK_split (fun h_ => ?_) (fun h_ => ?_) | refine ite_both (fun h_ => ?_) (fun h_ => ?_)) <;> (try simp only [decide_eq_true_eq, decide_eq_false_iff_not, Bool.not_true, Bool.not_false, Bool.not_eq_true', Bool.not_eq_false', Bool.not_eq_eq_eq_not, Decidable.not_not] at h_) <;> (try simp only [r19_0, r19_1, r19_2, r19_3, r19_4, r19_5, r19_6, r19_7, r19_8, r19_10, r19_9, r19_11, r19_12, r19_13, r19_15, r19_16, r19_14, r19_17, c19, F19, l19_1, XK_loop, t10, t8, t9, t4, t5, hlen, xa1, xa2, xa3, xb1, xb2, xb3, b2', b4', b5', b0', b1', ea4, ea5, eb4, eb5, h_, go_sem, Int.reduceTMod, Int.reduceTDiv, Int.reduceDiv, Int.reduceMod, Int.reduceAdd, Int.reduceSub, Int.reduceMul, Int.reduceNeg, Int.reducePow, Int.reduceEq, ↓reduceIte, Nat.reduceEqDiff, Nat.reduceAdd, Nat.reduceMul, Nat.reduceLeDiff, Nat.reduceSub, Nat.reduceLT, Int.reduceToNat, Int.reduceLT, Int.reduceLE, reduceCtorEq]))
  · refine ⟨?_, ?_, ?_, ?_, ?_, ?_, ?_, ?_, ?_, ?_, ?_, ?_, .sl (n + 6) 0 1 (some 1) 2, ?_, ?_⟩
    · simp only [go_sem, Int.reduceTMod, Int.reduceTDiv, Int.reduceDiv, Int.reduceMod, Int.reduceAdd, Int.reduceSub, Int.reduceMul, Int.reduceNeg, Int.reducePow, Int.reduceEq, ↓reduceIte, Nat.reduceEqDiff, Nat.reduceAdd, Nat.reduceMul, Nat.reduceLeDiff, Nat.reduceSub, Nat.reduceLT, Int.reduceToNat, Int.reduceLT, Int.reduceLE, reduceCtorEq]
    · simp only [go_sem, Int.reduceTMod, Int.reduceTDiv, Int.reduceDiv, Int.reduceMod, Int.reduceAdd, Int.reduceSub, Int.reduceMul, Int.reduceNeg, Int.reducePow, Int.reduceEq, ↓reduceIte, Nat.reduceEqDiff, Nat.reduceAdd, Nat.reduceMul, Nat.reduceLeDiff, Nat.reduceSub, Nat.reduceLT, Int.reduceToNat, Int.reduceLT, Int.reduceLE, reduceCtorEq]
    · simp only [go_sem, Int.reduceTMod, Int.reduceTDiv, Int.reduceDiv, Int.reduceMod, Int.reduceAdd, Int.reduceSub, Int.reduceMul, Int.reduceNeg, Int.reducePow, Int.reduceEq, ↓reduceIte, Nat.reduceEqDiff, Nat.reduceAdd, Nat.reduceMul, Nat.reduceLeDiff, Nat.reduceSub, Nat.reduceLT, Int.reduceToNat, Int.reduceLT, Int.reduceLE, reduceCtorEq]
    · simp only [go_sem, Int.reduceTMod, Int.reduceTDiv, Int.reduceDiv, Int.reduceMod, Int.reduceAdd, Int.reduceSub, Int.reduceMul, Int.reduceNeg, Int.reducePow, Int.reduceEq, ↓reduceIte, Nat.reduceEqDiff, Nat.reduceAdd, Nat.reduceMul, Nat.reduceLeDiff, Nat.reduceSub, Nat.reduceLT, Int.reduceToNat, Int.reduceLT, Int.reduceLE, reduceCtorEq]
    · simp only [go_sem, Int.reduceTMod, Int.reduceTDiv, Int.reduceDiv, Int.reduceMod, Int.reduceAdd, Int.reduceSub, Int.reduceMul, Int.reduceNeg, Int.reducePow, Int.reduceEq, ↓reduceIte, Nat.reduceEqDiff, Nat.reduceAdd, Nat.reduceMul, Nat.reduceLeDiff, Nat.reduceSub, Nat.reduceLT, Int.reduceToNat, Int.reduceLT, Int.reduceLE, reduceCtorEq]
    · simp only [go_sem, Int.reduceTMod, Int.reduceTDiv, Int.reduceDiv, Int.reduceMod, Int.reduceAdd, Int.reduceSub, Int.reduceMul, Int.reduceNeg, Int.reducePow, Int.reduceEq, ↓reduceIte, Nat.reduceEqDiff, Nat.reduceAdd, Nat.reduceMul, Nat.reduceLeDiff, Nat.reduceSub, Nat.reduceLT, Int.reduceToNat, Int.reduceLT, Int.reduceLE, reduceCtorEq]
    · simp only; omega
    · simp only [nadd, na_eq, go_sem, Int.reduceTMod, Int.reduceTDiv, Int.reduceDiv, Int.reduceMod, Int.reduceAdd, Int.reduceSub, Int.reduceMul, Int.reduceNeg, Int.reducePow, Int.reduceEq, ↓reduceIte, Nat.reduceEqDiff, Nat.reduceAdd, Nat.reduceMul, Nat.reduceLeDiff, Nat.reduceSub, Nat.reduceLT, Int.reduceToNat, Int.reduceLT, Int.reduceLE, reduceCtorEq]
    · simp only [nadd, na_eq, go_sem, Int.reduceTMod, Int.reduceTDiv, Int.reduceDiv, Int.reduceMod, Int.reduceAdd, Int.reduceSub, Int.reduceMul, Int.reduceNeg, Int.reducePow, Int.reduceEq, ↓reduceIte, Nat.reduceEqDiff, Nat.reduceAdd, Nat.reduceMul, Nat.reduceLeDiff, Nat.reduceSub, Nat.reduceLT, Int.reduceToNat, Int.reduceLT, Int.reduceLE, reduceCtorEq]
    · simp only [nadd, na_eq, go_sem, Int.reduceTMod, Int.reduceTDiv, Int.reduceDiv, Int.reduceMod, Int.reduceAdd, Int.reduceSub, Int.reduceMul, Int.reduceNeg, Int.reducePow, Int.reduceEq, ↓reduceIte, Nat.reduceEqDiff, Nat.reduceAdd, Nat.reduceMul, Nat.reduceLeDiff, Nat.reduceSub, Nat.reduceLT, Int.reduceToNat, Int.reduceLT, Int.reduceLE, reduceCtorEq]
    · simp only [nadd, na_eq, hb4, go_sem, Int.reduceTMod, Int.reduceTDiv, Int.reduceDiv, Int.reduceMod, Int.reduceAdd, Int.reduceSub, Int.reduceMul, Int.reduceNeg, Int.reducePow, Int.reduceEq, ↓reduceIte, Nat.reduceEqDiff, Nat.reduceAdd, Nat.reduceMul, Nat.reduceLeDiff, Nat.reduceSub, Nat.reduceLT, Int.reduceToNat, Int.reduceLT, Int.reduceLE, reduceCtorEq]
    · simp only [nadd, na_eq, hb5, go_sem, Int.reduceTMod, Int.reduceTDiv, Int.reduceDiv, Int.reduceMod, Int.reduceAdd, Int.reduceSub, Int.reduceMul, Int.reduceNeg, Int.reducePow, Int.reduceEq, ↓reduceIte, Nat.reduceEqDiff, Nat.reduceAdd, Nat.reduceMul, Nat.reduceLeDiff, Nat.reduceSub, Nat.reduceLT, Int.reduceToNat, Int.reduceLT, Int.reduceLE, reduceCtorEq]
    · simp only [go_sem, Int.reduceTMod, Int.reduceTDiv, Int.reduceDiv, Int.reduceMod, Int.reduceAdd, Int.reduceSub, Int.reduceMul, Int.reduceNeg, Int.reducePow, Int.reduceEq, ↓reduceIte, Nat.reduceEqDiff, Nat.reduceAdd, Nat.reduceMul, Nat.reduceLeDiff, Nat.reduceSub, Nat.reduceLT, Int.reduceToNat, Int.reduceLT, Int.reduceLE, reduceCtorEq]
    · simp only [List.take_zero]
      exact Or.inr ⟨n + 6, some 1, rfl, Nat.le_refl _, Nat.lt_succ_self _, upd_same _ _ _, Or.inr rfl⟩

end Go.Proofs.YtpleidpbapgmiaaDoor.Sy
