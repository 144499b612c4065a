/- An evaluator of a part of Go's operations over a memory of its own, part thirteen: a region whose order is drawn comes to what its own order comes to. Conditions: those that each theorem names. -/
import Derived.Test.YtkdbnmohpanpfaaSyL
namespace Go.Proofs.Ytkdbnmohpanpfaa.Sy
open Go
set_option linter.unusedVariables false
set_option linter.unusedSimpArgs false

def stepS (call : Callf) (env : Nat → Reg) (m : Mem) (n : Nat) (so : SOper) : Option (Reg × Mem × Nat) :=
  match wantedS env so with
  | true => evalOp call env m n so.op
  | false => some (.tup [], m, n)

/-- The way of a row of operations, step by step. -/
theorem trace {call : Callf} : ∀ (ss : List SOper) (env env' : Nat → Reg) (m m' : Mem) (n n' : Nat), evalOps call ss env m n = some (env', m', n') →
    ∃ (E : Nat → Nat → Reg) (M : Nat → Mem) (C : Nat → Nat) (R : Nat → Reg), E 0 = env ∧ M 0 = m ∧ C 0 = n ∧ E ss.length = env' ∧ M ss.length = m' ∧ C ss.length = n' ∧
      ∀ i so, ss[i]? = some so → stepS call (E i) (M i) (C i) so = some (R i, M (i + 1), C (i + 1)) ∧ E (i + 1) = putE (E i) so.dst (R i)
  | [], env, env', m, m', n, n', h => by
    simp only [evalOps, Option.some.injEq, Prod.mk.injEq] at h
    obtain ⟨rfl, rfl, rfl⟩ := h
    exact ⟨fun _ => env, fun _ => m, fun _ => n, fun _ => .tup [], rfl, rfl, rfl, rfl, rfl, rfl, fun i so h => by simp at h⟩
  | s :: ss, env, env', m, m', n, n', h => by
    have hev' : ∃ r m1 n1, stepS call env m n s = some (r, m1, n1) ∧ evalOps call ss (putE env s.dst r) m1 n1 = some (env', m', n') := by
      simp only [evalOps] at h
      unfold stepS
      cases hw : wantedS env s with
      | true =>
        simp only [hw] at h ⊢
        split at h
        · rename_i r m1 n1 h1
          exact ⟨r, m1, n1, h1, h⟩
        · cases h
      | false =>
        simp only [hw] at h ⊢
        exact ⟨.tup [], m, n, rfl, h⟩
    obtain ⟨r, m1, n1, h1, h2⟩ := hev'
    obtain ⟨E, M, C, R, e1, e2, e3, e4, e5, e6, e7⟩ := trace ss _ _ _ _ _ _ h2
    refine ⟨fun i => match i with | 0 => env | i + 1 => E i, fun i => match i with | 0 => m | i + 1 => M i, fun i => match i with | 0 => n | i + 1 => C i, fun i => match i with | 0 => r | i + 1 => R i,
      rfl, rfl, rfl, e4, e5, e6, fun i so hi => ?_⟩
    cases i with
    | zero =>
      simp only [List.getElem?_cons_zero, Option.some.injEq] at hi
      subst hi
      simp only [e1, e2, e3]
      exact ⟨h1, trivial⟩
    | succ i => exact e7 i so (by simpa using hi)

theorem countP_lt {α : Type} {p q : α → Bool} : ∀ (l : List α), (∀ x ∈ l, q x = true → p x = true) → ∀ i ∈ l, p i = true → q i = false → l.countP q < l.countP p
  | [], _, i, hi, _, _ => by simp at hi
  | x :: l, h, i, hi, hp, hq => by
    have hle : l.countP q ≤ l.countP p := List.countP_mono_left (fun y hy hqy => h y (by simp [hy]) hqy)
    rcases List.mem_cons.1 hi with rfl | hi
    · rw [List.countP_cons_of_neg (by simp [hq]), List.countP_cons_of_pos hp]
      omega
    · have ih := countP_lt l (fun y hy => h y (by simp [hy])) i hi hp hq
      by_cases hx : q x = true
      · rw [List.countP_cons_of_pos hx, List.countP_cons_of_pos (h x (by simp) hx)]; omega
      · rw [List.countP_cons_of_neg hx]
        by_cases hx' : p x = true
        · rw [List.countP_cons_of_pos hx']; omega
        · rw [List.countP_cons_of_neg hx']; exact ih

def left (L : Nat) (listed : Array Bool) : Nat := (List.range L).countP fun i => !listed.getD i true

section
variable {us : List Nat} {dis : List (Nat × Nat)} {P : Program} {ng N : Nat} {md : Nat → Mode} {ops : Array Oper} {ss : List SOper} {cl : List (List Nat)} {call : Callf} {Q : Exit → Act → World → Prop}

/-- What the checks say. -/
structure Chk (us : List Nat) (dis : List (Nat × Nat)) (ops : Array Oper) (ss : List SOper) (cl : List (List Nat)) : Prop where
  len : ss.length = ops.size
  pair : ∀ i j x y, i < j → ss[i]? = some x → ss[j]? = some y → pairOk us dis cl i x j y = true
  look : ∀ (j : Nat) (x : SOper), ss[j]? = some x → (kindOf x.op = .l → lookT x.op = true) ∧ (∀ t, addrT x.op = some t → x.dst ≠ some t)
  clo : ∀ j o, ops[j]? = some o → (∀ e ∈ o.after.toList, Region.binds .any e = true → e.on < j) ∧ (∀ i ∈ cl.getD j [], ∃ e ∈ o.after.toList, Region.binds .any e = true ∧ (e.on = i ∨ inC cl i e.on = true))

theorem chk_of (h : dOk us dis cl ops ss = true) (hl : ss.length = ops.size) : Chk us dis ops ss cl := by
  simp only [dOk, Bool.and_eq_true] at h
  refine ⟨hl, fun i j x y hij hx hy => ?_, allPairs_look h.2, fun j o ho => ?_⟩
  · simpa using allPairs_get h.2 i j x y hij hx hy
  · simpa using clOk_get h.1 j o (by simpa using ho)

def Lst (listed : Array Bool) (i : Nat) : Prop := listed.getD i false = true

structure Inv (us : List Nat) (P : Program) (ng N : Nat) (ss : List SOper) (ops : Array Oper) (E : Nat → Nat → Reg) (M : Nat → Mem) (C : Nat → Nat) (R : Nat → Reg) (ρ0 : Loc) (w0 : World) (d0 : List Deferred) (listed : Array Bool) (a : Act) (w : World) : Prop where
  size : listed.size = ss.length
  down : ∀ j o, Lst listed j → ops[j]? = some o → ∀ e ∈ o.after.toList, Region.binds .any e = true → Lst listed e.on
  tmps : a.tmps.size = N
  defers : a.defers = d0
  us : ∀ u ∈ us, Lst listed u
  ex : ∃ p ρ, p ≤ ss.length ∧ (∀ i so, ss[i]? = some so → isEff so = true → (Lst listed i ↔ i < p)) ∧ Step ρ0 (C 0) w0 (M 0) ρ (C p) w (M p) ∧ Glob ng ρ (C p) ∧
    (∀ t, (∀ i so, ss[i]? = some so → so.dst = some t → Lst listed i → RRel ρ (C p) w (R i) (a.tmps.getD t undef)) ∧ ((∀ i so, ss[i]? = some so → so.dst = some t → ¬ Lst listed i) → RRel ρ (C p) w (E 0 t) (a.tmps.getD t undef))) ∧
    (∀ i, i ≤ p → ∀ id b, M i id = some b → id < C i)

theorem clo_mem (hc : Chk us dis ops ss cl) {listed : Array Bool} (hd : ∀ j o, Lst listed j → ops[j]? = some o → ∀ e ∈ o.after.toList, Region.binds .any e = true → Lst listed e.on) :
    ∀ (j i : Nat), j < ops.size → inC cl i j = true → (∀ o, ops[j]? = some o → ∀ e ∈ o.after.toList, Region.binds .any e = true → Lst listed e.on) → Lst listed i := by
  intro j
  induction j using Nat.strongRecOn with
  | _ j ih =>
    intro i hj hi hafter
    obtain ⟨o, ho⟩ : ∃ o, ops[j]? = some o := ⟨ops[j], Array.getElem?_eq_getElem hj⟩
    obtain ⟨h1, h2⟩ := hc.clo j o ho
    have hi' : i ∈ cl.getD j [] := by simpa [inC] using hi
    obtain ⟨e, he, hb, hor⟩ := h2 i hi'
    have hon := hafter o ho e he hb
    rcases hor with rfl | hor
    · exact hon
    · have hlt := h1 e he hb
      exact ih e.on hlt i (by omega) hor (fun o' ho' => hd e.on o' hon ho')

variable {F : Fence} {nf : Nat} [Wide F]

mutual
theorem CRel.shrink {ρ0 ρ : Loc} {n0 n : Nat} {w0 w : World} : ∀ (c : Cell) (v0 v : Value), CRel ρ0 n0 w0 c v0 → CRel ρ n w c v → CRel ρ n0 w c v
  | .sc _, _, _, _, h => by simpa only [CRel] using h
  | .ptr id off, _, _, h0, h => by
    simp only [CRel] at h0 h ⊢
    exact ⟨h0.1, h.2⟩
  | .sl id off len cap sz, _, _, h0, h => by
    simp only [CRel] at h0 h ⊢
    exact ⟨h0.1, h.2⟩
  | .clo f caps, _, _, h0, h => by
    simp only [CRel] at h0 h ⊢
    obtain ⟨vs0, _, h1⟩ := h0
    obtain ⟨vs, h2, h3⟩ := h
    exact ⟨vs, h2, CRels.shrink caps vs0 vs h1 h3⟩
theorem CRels.shrink {ρ0 ρ : Loc} {n0 n : Nat} {w0 w : World} : ∀ (cs : List Cell) (vs0 vs : List Value), CRels ρ0 n0 w0 cs vs0 → CRels ρ n w cs vs → CRels ρ n0 w cs vs
  | [], _, _, _, h => by simpa only [CRels] using h
  | c :: cs, _, _, h0, h => by
    simp only [CRels] at h0 h ⊢
    obtain ⟨v0, r0, _, h1, h2⟩ := h0
    obtain ⟨v, r, h3, h4, h5⟩ := h
    exact ⟨v, r, h3, CRel.shrink c v0 v h1 h4, CRels.shrink cs r0 r h2 h5⟩
end
mutual
theorem RRel.shrink {ρ0 ρ : Loc} {n0 n : Nat} {w0 w : World} : ∀ (c : Reg) (v0 v : Value), RRel ρ0 n0 w0 c v0 → RRel ρ n w c v → RRel ρ n0 w c v
  | .one c, _, _, h0, h => by
    simp only [RRel] at h0 h ⊢
    exact CRel.shrink c _ _ h0 h
  | .agg cs, _, _, h0, h => by
    simp only [RRel] at h0 h ⊢
    obtain ⟨vs0, _, h1⟩ := h0
    obtain ⟨vs, h2, h3⟩ := h
    exact ⟨vs, h2, CRels.shrink cs vs0 vs h1 h3⟩
  | .tup rs, _, _, h0, h => by
    simp only [RRel] at h0 h ⊢
    obtain ⟨vs0, _, h1⟩ := h0
    obtain ⟨vs, h2, h3⟩ := h
    exact ⟨vs, h2, RRels.shrink rs vs0 vs h1 h3⟩
theorem RRels.shrink {ρ0 ρ : Loc} {n0 n : Nat} {w0 w : World} : ∀ (cs : List Reg) (vs0 vs : List Value), RRels ρ0 n0 w0 cs vs0 → RRels ρ n w cs vs → RRels ρ n0 w cs vs
  | [], _, _, _, h => by simpa only [RRels] using h
  | c :: cs, _, _, h0, h => by
    simp only [RRels] at h0 h ⊢
    obtain ⟨v0, r0, _, h1, h2⟩ := h0
    obtain ⟨v, r, h3, h4, h5⟩ := h
    exact ⟨v, r, h3, RRel.shrink c v0 v h1 h4, RRels.shrink cs r0 r h2 h5⟩
end

/-- A call that only looks at what lay when its region began: it was reckoned ahead. -/
structure PreOp (F : Fence) (nf : Nat) (P : Program) (ng N : Nat) (ops : Array Oper) (ss : List SOper) (cl : List (List Nat)) (E : Nat → Nat → Reg) (M : Nat → Mem) (C : Nat → Nat) (R : Nat → Reg) (ρ0 : Loc) (w0 : World) (Q : Exit → Act → World → Prop) (i : Nat) (so : SOper) : Prop where
  dst : ∀ d, so.dst = some d → d < N
  quiet : isEff so = false
  first : ∀ (k : Nat) (sk : SOper), ss[k]? = some sk → kindOf sk.op = .hard → inC cl i k = true
  runs : ∀ (ρ : Loc) (n : Nat) (w : World) (m : Mem) (a : Act) (K : Act → World → Prop), MRel ρ n w m → Glob ng ρ n → MRel ρ (C 0) w (frz (M 0)) → Le ρ0 (C 0) w0 ρ n w → a.tmps.size = N →
    (∀ t, (∀ (k : Nat) (sk : SOper), ss[k]? = some sk → sk.dst ≠ some t) → RRel ρ n w (E 0 t) (a.tmps.getD t undef)) → (∀ t ∈ usesS so, RRel ρ n w (E i t) (a.tmps.getD t undef)) → (∀ v ρ' w', Step ρ n w m ρ' n w' m → RRel ρ' n w' (R i) v → K (a.put so.dst v) w') → wpOpIn F nf P ops Q i K a w

theorem wpAny_ok (hcall : CallOK P ng call) (hc : Chk us dis ops ss cl) {E : Nat → Nat → Reg} {M : Nat → Mem} {C : Nat → Nat} {R : Nat → Reg} {ρ0 : Loc} {w0 : World} {d0 : List Deferred} (hm0 : MRel ρ0 (C 0) w0 (M 0))
    (hM : ∀ i so, ss[i]? = some so → Matches P ng N md ops i so ∨ PreOp F nf P ng N ops ss cl E M C R ρ0 w0 Q i so)
    (htr : ∀ i so, ss[i]? = some so → stepS call (E i) (M i) (C i) so = some (R i, M (i + 1), C (i + 1)) ∧ E (i + 1) = putE (E i) so.dst (R i))
    (hdis : disOk (E ss.length) dis = true)
    (hQ : ∀ ρ' a' w', Step ρ0 (C 0) w0 (M 0) ρ' (C ss.length) w' (M ss.length) → Good N ng ρ' (C ss.length) w' (E ss.length) (M ss.length) a' → a'.defers = d0 → Q .normal a' w') :
    ∀ (fuel : Nat) (listed : Array Bool) (a : Act) (w : World), left ss.length listed ≤ fuel → Inv us P ng N ss ops E M C R ρ0 w0 d0 listed a w → wpAnyIn F nf P .any ops Q fuel listed a w := by
  -- the value of a variable in the rows' own order
  have hE : ∀ j, j ≤ ss.length → ∀ t, (∀ (i : Nat) (so : SOper), i < j → ss[i]? = some so → so.dst = some t → E j t = R i) ∧ ((∀ (i : Nat) (so : SOper), i < j → ss[i]? = some so → so.dst ≠ some t) → E j t = E 0 t) := by
    intro j
    induction j with
    | zero => intro _ t; exact ⟨fun i so h => by omega, fun _ => rfl⟩
    | succ j ih =>
      intro hj t
      obtain ⟨so, hso⟩ : ∃ so, ss[j]? = some so := ⟨ss[j]'(by omega), List.getElem?_eq_getElem (by omega)⟩
      obtain ⟨ih1, ih2⟩ := ih (by omega) t
      rw [(htr j so hso).2]
      constructor
      · intro i si hij hsi hd
        rcases Nat.lt_or_ge i j with h1 | h1
        · have hp := hc.pair i j si so h1 hsi hso
          simp only [pairOk, hd, Bool.and_eq_true, bne_iff_ne, ne_eq] at hp
          have hne : so.dst ≠ some t := hp.1.1.1.1.1.1
          have : putE (E j) so.dst (R j) t = E j t := by
            cases hdd : so.dst with
            | none => rfl
            | some d => exact upd_ne _ _ (fun e => hne (by rw [hdd, e]))
          rw [this]
          exact ih1 i si h1 hsi hd
        · have : i = j := by omega
          subst this
          rw [hso] at hsi
          cases hsi
          rw [hd]
          exact upd_same _ _ _
      · intro hno
        have hne : so.dst ≠ some t := hno j so (by omega) hso
        have : putE (E j) so.dst (R j) t = E j t := by
          cases hdd : so.dst with
          | none => rfl
          | some d => exact upd_ne _ _ (fun e => hne (by rw [hdd, e]))
        rw [this]
        exact ih2 (fun i si hi => hno i si (by omega))
  -- where nothing acts, nothing turns
  have hstill : ∀ i so, ss[i]? = some so → isEff so = false → M (i + 1) = M i ∧ C (i + 1) = C i := by
    intro i so hso hne
    have h1 := (htr i so hso).1
    unfold stepS at h1
    split at h1
    · cases hk : kindOf so.op with
      | p => have := kind_p hk h1; exact ⟨this.1, this.2.1⟩
      | l => have := kind_l hk h1; exact ⟨this.1, this.2.1⟩
      | mild => simp [isEff, hk] at hne
      | hard => simp [isEff, hk] at hne
    · simp only [Option.some.injEq, Prod.mk.injEq] at h1; exact ⟨h1.2.1.symm, h1.2.2.symm⟩
  have hmild : ∀ i so, ss[i]? = some so → kindOf so.op ≠ .hard → C i ≤ C (i + 1) ∧ ∀ id, id < C i → M (i + 1) id = M i id := by
    intro i so hso hne
    by_cases he : isEff so = true
    · have h1 := (htr i so hso).1
      unfold stepS at h1
      split at h1
      · have hk : kindOf so.op = .mild := by
          simp only [isEff, Bool.or_eq_true, beq_iff_eq] at he
          exact he.resolve_right hne
        exact kind_mild hk h1
      · simp only [Option.some.injEq, Prod.mk.injEq] at h1
        exact ⟨by rw [h1.2.2]; exact Nat.le_refl _, fun id _ => by rw [h1.2.1]⟩
    · have := hstill i so hso (by simpa using he)
      exact ⟨by rw [this.2]; exact Nat.le_refl _, fun id _ => by rw [this.1]⟩
  -- an address stays
  have haddr : ∀ (i : Nat) (so : SOper) (t : Nat), ss[i]? = some so → addrT so.op = some t → E ss.length t = E i t := by
    intro i so t hso ht
    have hi : i < ss.length := (List.getElem?_eq_some_iff.1 hso).1
    have hno : ∀ (j : Nat) (sj : SOper), i ≤ j → ss[j]? = some sj → sj.dst ≠ some t := by
      intro j sj hij hsj hd
      rcases Nat.lt_or_ge i j with h | h
      · have hp := hc.pair i j so sj h hso hsj
        simp only [pairOk, Bool.and_eq_true, ht, bne_iff_ne, ne_eq] at hp
        exact hp.2 hd
      · have : j = i := by omega
        subst this
        rw [hso] at hsj
        cases hsj
        exact (hc.look j so hso).2 t ht hd
    obtain ⟨q1, q2⟩ := hE ss.length (Nat.le_refl _) t
    obtain ⟨q3, q4⟩ := hE i (by omega) t
    by_cases hex : ∃ (j : Nat) (sj : SOper), j < i ∧ ss[j]? = some sj ∧ sj.dst = some t
    · obtain ⟨j, sj, h1, h2, h3⟩ := hex
      rw [q1 j sj (by omega) h2 h3, q3 j sj h1 h2 h3]
    · rw [q2 (fun j sj h1 h2 h3 => (Nat.lt_or_ge j i).elim (fun h => hex ⟨j, sj, h, h2, h3⟩) (fun h => hno j sj h h2 h3)), q4 (fun j sj h1 h2 h3 => hex ⟨j, sj, h1, h2, h3⟩)]
  have hapart : ∀ (i : Nat) (si : SOper) (j : Nat) (sj : SOper) (id : Nat), ss[i]? = some si → ss[j]? = some sj → disC dis si.op sj.op = true → lookAt (E i) si.op = some id → C j ≤ C (j + 1) ∧ (id < C j → M (j + 1) id = M j id) := by
    intro i si j sj id hsi hsj hd hl
    simp only [disC, Bool.and_eq_true] at hd
    obtain ⟨hst, hd⟩ := hd
    split at hd
    case h_2 => cases hd
    rename_i ta tb h1 h2
    have hin : (ta, tb) ∈ dis := by simpa using hd
    have h3 := look_id h1 hl
    have h4 := haddr i si ta hsi h1
    have h5 := haddr j sj tb hsj h2
    have h6 := (htr j sj hsj).1
    unfold stepS at h6
    split at h6
    · obtain ⟨h8, h9⟩ := store_id hst h2 h6
      refine ⟨h8, h9 id ?_⟩
      simp only [disOk, List.all_eq_true, Bool.or_eq_true] at hdis
      intro h7
      rcases hdis (ta, tb) hin with this | this
      · rw [h5] at this
        rw [noId_idOf this] at h7
        cases h7
      · simp [h4, h5, h3, h7] at this
    · simp only [Option.some.injEq, Prod.mk.injEq] at h6; exact ⟨by rw [h6.2.2]; exact Nat.le_refl _, fun _ => by rw [h6.2.1]⟩
  have hrun : ∀ p j, p ≤ j → j ≤ ss.length → (∀ (i : Nat) (so : SOper), p ≤ i → i < j → ss[i]? = some so → isEff so = false) → M j = M p ∧ C j = C p := by
    intro p j hpj
    induction j with
    | zero => intro _ _; have : p = 0 := by omega
              subst this; exact ⟨rfl, rfl⟩
    | succ j ih =>
      intro hj hno
      rcases Nat.lt_or_ge j p with h1 | h1
      · have : p = j + 1 := by omega
        subst this; exact ⟨rfl, rfl⟩
      · obtain ⟨so, hso⟩ : ∃ so, ss[j]? = some so := ⟨ss[j]'(by omega), List.getElem?_eq_getElem (by omega)⟩
        have h2 := hstill j so hso (hno j so h1 (by omega) hso)
        have h3 := ih h1 (by omega) (fun i si h4 h5 => hno i si h4 (by omega))
        exact ⟨h2.1.trans h3.1, h2.2.trans h3.2⟩
  intro fuel
  -- what is ready
  have hready : ∀ (listed : Array Bool) a w, Inv us P ng N ss ops E M C R ρ0 w0 d0 listed a w → ∀ j, j ∈ Region.ready .any ops listed ↔ (j < ss.length ∧ ¬ Lst listed j ∧ ∀ o, ops[j]? = some o → ∀ e ∈ o.after.toList, Region.binds .any e = true → Lst listed e.on) := by
    intro listed a w hI j
    simp only [Region.ready, List.mem_filter, List.mem_range, Bool.and_eq_true, Bool.not_eq_true']
    constructor
    · rintro ⟨h1, h2, h3⟩
      have hjs : j < ss.length := by rw [hc.len]; exact h1
      refine ⟨hjs, ?_, ?_⟩
      · intro hl
        have hsz := hI.size
        have : listed.getD j true = listed.getD j false := by
          simp [Array.getD_eq_getD_getElem?, Array.getElem?_eq_getElem (show j < listed.size by omega)]
        rw [this, hl] at h2
        cases h2
      · intro o ho e he hb
        rw [ho] at h3
        simp only [Option.map_some, Option.getD_some] at h3
        rw [← Array.all_toList, List.all_eq_true] at h3
        have := h3 e he
        rw [hb] at this
        simpa [Lst] using this
    · rintro ⟨h1, h2, h3⟩
      have hjo : j < ops.size := by rw [← hc.len]; exact h1
      refine ⟨hjo, ?_, ?_⟩
      · have hsz := hI.size
        have : listed.getD j true = listed.getD j false := by
          simp [Array.getD_eq_getD_getElem?, Array.getElem?_eq_getElem (show j < listed.size by omega)]
        rw [this]
        simpa [Lst] using h2
      · rw [Array.getElem?_eq_getElem hjo]
        simp only [Option.map_some, Option.getD_some]
        rw [← Array.all_toList, List.all_eq_true]
        intro e he
        have := h3 ops[j] (Array.getElem?_eq_getElem hjo) e he
        cases hb : Region.binds .any e with
        | false => rfl
        | true => simpa [Lst] using this hb
  -- the end
  have hend : ∀ (listed : Array Bool) a w, Inv us P ng N ss ops E M C R ρ0 w0 d0 listed a w → Region.ready .any ops listed = [] → Q .normal a w := by
    intro listed a w hI hr
    have hall : ∀ j, j < ss.length → Lst listed j := by
      intro j
      induction j using Nat.strongRecOn with
      | _ j ih =>
        intro hj
        refine Classical.byContradiction fun hn => ?_
        have hjo : j < ops.size := by rw [← hc.len]; exact hj
        have : j ∈ Region.ready .any ops listed := (hready listed a w hI j).2 ⟨hj, hn, fun o ho e he hb => by
          have := (hc.clo j o ho).1 e he hb
          exact ih e.on this (by omega)⟩
        rw [hr] at this
        cases this
    obtain ⟨p, ρ, hp, heff, hst, hgl, henv, hwf⟩ := hI.ex
    have hMp := hrun p ss.length hp (Nat.le_refl _) (fun i so h1 h2 hso => by
      cases he : isEff so with
      | false => rfl
      | true => have := (heff i so hso he).1 (hall i h2); omega)
    refine hQ ρ a w (by rw [hMp.1, hMp.2]; exact hst) ⟨?_, ?_, ?_, hI.tmps⟩ hI.defers
    · rw [hMp.1, hMp.2]; exact hst.rel
    · rw [hMp.2]; exact hgl
    · intro t
      rw [hMp.2]
      obtain ⟨h1, h2⟩ := hE ss.length (Nat.le_refl _) t
      by_cases hex : ∃ (i : Nat) (so : SOper), i < ss.length ∧ ss[i]? = some so ∧ so.dst = some t
      · obtain ⟨i, so, hi, hso, hd⟩ := hex
        rw [h1 i so hi hso hd]
        exact (henv t).1 i so hso hd (hall i hi)
      · have hno : ∀ (i : Nat) (so : SOper), ss[i]? = some so → so.dst ≠ some t := fun i so hso hd => hex ⟨i, so, (List.getElem?_eq_some_iff.1 hso).1, hso, hd⟩
        rw [h2 (fun i so _ hso => hno i so hso)]
        exact (henv t).2 (fun i so hso hd => absurd hd (hno i so hso))
  -- one step
  have hstep : ∀ (K : Array Bool → Act → World → Prop) (listed : Array Bool) a w, Inv us P ng N ss ops E M C R ρ0 w0 d0 listed a w → (∀ listed' a' w', left ss.length listed' < left ss.length listed → Inv us P ng N ss ops E M C R ρ0 w0 d0 listed' a' w' → K listed' a' w') →
      ∀ j ∈ Region.ready .any ops listed, wpOpIn F nf P ops Q j (K (listed.setIfInBounds j true)) a w := by
    intro K listed a w hI hK j hj
    obtain ⟨hjs, hjn, hja⟩ := (hready listed a w hI j).1 hj
    have hjo : j < ops.size := by rw [← hc.len]; exact hjs
    obtain ⟨so, hso⟩ : ∃ so, ss[j]? = some so := ⟨ss[j], List.getElem?_eq_getElem hjs⟩
    obtain ⟨p, ρ, hp, heff, hst, hgl, henv, hwf⟩ := hI.ex
    have hsz := hI.size
    -- listing it
    have hl1 : ∀ i, Lst (listed.setIfInBounds j true) i ↔ (i = j ∨ Lst listed i) := by
      intro i
      unfold Lst
      simp only [Array.getD_eq_getD_getElem?]
      by_cases e : i = j
      · subst e
        simp [Array.getElem?_setIfInBounds_self_of_lt (show i < listed.size by omega)]
      · rw [Array.getElem?_setIfInBounds_ne (Ne.symm e)]
        simp [e]
    have hleft : left ss.length (listed.setIfInBounds j true) < left ss.length listed := by
      refine countP_lt _ (fun x hx hq => ?_) j (by simpa using hjs) ?_ ?_
      · simp only [Array.getD_eq_getD_getElem?] at hq ⊢
        by_cases e : x = j
        · subst e
          rw [Array.getElem?_setIfInBounds_self_of_lt (by omega)] at hq
          simp at hq
        · rwa [Array.getElem?_setIfInBounds_ne (Ne.symm e)] at hq
      · have : listed.getD j true = listed.getD j false := by
          simp [Array.getD_eq_getD_getElem?, Array.getElem?_eq_getElem (show j < listed.size by omega)]
        rw [this]
        simpa [Lst] using hjn
      · simp [Array.getD_eq_getD_getElem?, Array.getElem?_setIfInBounds_self_of_lt (show j < listed.size by omega)]
    have hju : us.contains j = false := by
      cases h : us.contains j with
      | false => rfl
      | true => exact absurd (hI.us j (List.contains_iff_mem.1 h)) hjn
    have hcl : ∀ i, inC cl i j = true → Lst listed i := fun i hi => clo_mem hc hI.down j i hjo hi hja
    have hcl2 : ∀ i, i < ops.size → inC cl j i = true → ¬ Lst listed i := by
      intro i hi hij hl
      obtain ⟨o, ho⟩ : ∃ o, ops[i]? = some o := ⟨ops[i], Array.getElem?_eq_getElem hi⟩
      exact hjn (clo_mem hc hI.down i j hi hij (fun o' ho' => hI.down i o' hl ho'))
    -- the environment as the machine has it
    have hdec : ∀ t, Decidable (∃ i si, ss[i]? = some si ∧ si.dst = some t ∧ Lst listed i) := fun t => Classical.propDecidable _
    let eS : Nat → Reg := fun t => if h : ∃ i si, ss[i]? = some si ∧ si.dst = some t ∧ Lst listed i then R h.choose else E 0 t
    have heS : ∀ t, RRel ρ (C p) w (eS t) (a.tmps.getD t undef) := by
      intro t
      by_cases h : ∃ i si, ss[i]? = some si ∧ si.dst = some t ∧ Lst listed i
      · simp only [eS, dif_pos h]
        obtain ⟨si, h1, h2, h3⟩ := h.choose_spec
        exact (henv t).1 _ si h1 h2 h3
      · simp only [eS, dif_neg h]
        exact (henv t).2 (fun i si h1 h2 h3 => h ⟨i, si, h1, h2, h3⟩)
    have huniq : ∀ (i1 : Nat) (s1 : SOper) (i2 : Nat) (s2 : SOper) (t : Nat), ss[i1]? = some s1 → ss[i2]? = some s2 → s1.dst = some t → s2.dst = some t → i1 = i2 := by
      intro i1 s1 i2 s2 t h1 h2 h3 h4
      rcases Nat.lt_trichotomy i1 i2 with h | h | h
      · have := hc.pair i1 i2 s1 s2 h h1 h2
        simp [pairOk, h3, h4] at this
      · exact h
      · have := hc.pair i2 i1 s2 s1 h h2 h1
        simp [pairOk, h3, h4] at this
    have hag : ∀ t ∈ usesS so, eS t = E j t := by
      intro t ht
      obtain ⟨q1, q2⟩ := hE j (by omega) t
      by_cases hex : ∃ (i : Nat) (si : SOper), ss[i]? = some si ∧ si.dst = some t
      · obtain ⟨i, si, hsi, hd⟩ := hex
        have hi : i < ss.length := (List.getElem?_eq_some_iff.1 hsi).1
        rcases Nat.lt_trichotomy i j with h | h | h
        · have hp' := hc.pair i j si so h hsi hso
          simp only [pairOk, hd, Bool.and_eq_true, Bool.or_eq_true, Bool.not_eq_true'] at hp'
          have hin : inC cl i j = true := by
            rcases hp'.1.1.1.1.1.2 with h1 | h1
            · rw [List.contains_iff_mem.2 ht] at h1; cases h1
            · exact h1
          have hl := hcl i hin
          have hh : ∃ i si, ss[i]? = some si ∧ si.dst = some t ∧ Lst listed i := ⟨i, si, hsi, hd, hl⟩
          obtain ⟨s', h1, h2, h3⟩ := hh.choose_spec
          have := huniq _ _ _ _ _ h1 hsi h2 hd
          simp only [eS, dif_pos hh, this]
          exact (q1 i si h hsi hd).symm
        · subst h
          have hno : ¬ ∃ i' si', ss[i']? = some si' ∧ si'.dst = some t ∧ Lst listed i' := by
            rintro ⟨i', si', h1, h2, h3⟩
            have := huniq _ _ _ _ _ h1 hsi h2 hd
            subst this
            exact hjn h3
          simp only [eS, dif_neg hno]
          exact (q2 (fun i' si' h1 h2 h3 => by have := huniq _ _ _ _ _ h2 hsi h3 hd; omega)).symm
        · have hp' := hc.pair j i so si h hso hsi
          simp only [pairOk, hd, Bool.and_eq_true, Bool.or_eq_true, Bool.not_eq_true'] at hp'
          have hin : inC cl j i = true := by
            rcases hp'.1.1.1.1.2 with h1 | h1
            · rw [List.contains_iff_mem.2 ht] at h1; cases h1
            · exact h1
          have hnl := hcl2 i (by rw [← hc.len]; exact hi) hin
          have hno : ¬ ∃ i' si', ss[i']? = some si' ∧ si'.dst = some t ∧ Lst listed i' := by
            rintro ⟨i', si', h1, h2, h3⟩
            have := huniq _ _ _ _ _ h1 hsi h2 hd
            subst this
            exact hnl h3
          simp only [eS, dif_neg hno]
          exact (q2 (fun i' si' h1 h2 h3 => by have := huniq _ _ _ _ _ h2 hsi h3 hd; omega)).symm
      · have hno : ¬ ∃ i' si', ss[i']? = some si' ∧ si'.dst = some t ∧ Lst listed i' := by
          rintro ⟨i', si', h1, h2, h3⟩
          exact hex ⟨i', si', h1, h2⟩
        simp only [eS, dif_neg hno]
        exact (q2 (fun i' si' h1 h2 h3 => hex ⟨i', si', h2, h3⟩)).symm
    have hwant : wantedS eS so = wantedS (E j) so := by
      unfold wantedS
      cases hg : so.guard with
      | none => rfl
      | some g =>
        obtain ⟨gt, want⟩ := g
        cases gt with
        | none => rfl
        | some t =>
          simp only
          rw [hag t (by simp [usesS, hg])]
    have hcong : ∀ m n, stepS call eS m n so = stepS call (E j) m n so := by
      intro m n
      unfold stepS
      rw [hwant, evalOp_congr (fun t ht => hag t (by simp [usesS, ht]))]
    have hG : Good N ng ρ (C p) w eS (M p) a := ⟨hst.rel, hgl, heS, hI.tmps⟩
    have hMj := hM j so hso
    have hdN : ∀ d, so.dst = some d → d < N := by
      rcases hMj with ⟨_, _, _, h⟩ | h
      · exact h
      · exact h.dst
    -- the invariant behind it
    have hnext : ∀ (q : Nat) (v : Value) (ρ' : Loc) (w' : World), q ≤ ss.length → (∀ i si, ss[i]? = some si → isEff si = true → ((i = j ∨ Lst listed i) ↔ i < q)) → Step ρ (C p) w (M p) ρ' (C q) w' (M q) → RRel ρ' (C q) w' (R j) v →
        (∀ i, i ≤ q → ∀ id b, M i id = some b → id < C i) → K (listed.setIfInBounds j true) (a.put so.dst v) w' := by
      intro q v ρ' w' hq heff' hst' hv hwf'
      refine hK _ _ _ hleft ⟨by simpa using hsz, ?_, by rw [Act.size_put]; exact hI.tmps, by rw [Act.defers_put]; exact hI.defers, fun u hu => (hl1 u).2 (Or.inr (hI.us u hu)), q, ρ', hq, ?_, hst.trans hst', hgl.mono hst'.le, ?_, hwf'⟩
      · intro i o hl ho e he hb
        rw [hl1] at hl ⊢
        rcases hl with rfl | hl
        · exact Or.inr (hja o ho e he hb)
        · exact Or.inr (hI.down i o hl ho e he hb)
      · intro i si hsi he
        rw [hl1]
        exact heff' i si hsi he
      · intro t
        have hput : (a.put so.dst v).tmps.getD t undef = if so.dst = some t then v else a.tmps.getD t undef := by
          cases hd : so.dst with
          | none => simp [Act.put]
          | some d =>
            have hlt : d < a.tmps.size := by rw [hI.tmps]; exact hdN d hd
            by_cases e : d = t
            · subst e
              simp [Act.put, Array.getD_eq_getD_getElem?, hlt]
            · have e' : ¬ (some d = some t) := fun h => e (Option.some.inj h)
              simp [Act.put, Array.getD_eq_getD_getElem?, e, Array.getElem?_setIfInBounds_ne e]
        rw [hput]
        constructor
        · intro i si hsi hd hl
          rw [hl1] at hl
          by_cases hdj : so.dst = some t
          · have := huniq _ _ _ _ _ hsi hso hd hdj
            subst this
            rw [if_pos hdj]
            exact hv
          · rw [if_neg hdj]
            rcases hl with rfl | hl
            · rw [hso] at hsi; cases hsi; exact absurd hd hdj
            · exact RRel.mono hst'.le _ _ ((henv t).1 i si hsi hd hl)
        · intro hno
          have hdj : so.dst ≠ some t := fun hd => hno j so hso hd ((hl1 j).2 (Or.inl rfl))
          rw [if_neg hdj]
          exact RRel.mono hst'.le _ _ ((henv t).2 (fun i si hsi hd hl => hno i si hsi hd ((hl1 i).2 (Or.inr hl))))
    have htj := (htr j so hso).1
    by_cases he : isEff so = true
    · -- it acts
      have hpj : p ≤ j := by
        rcases Nat.lt_or_ge j p with h | h
        · exact absurd ((heff j so hso he).2 h) hjn
        · exact h
      have hsame := hrun p j hpj (by omega) (fun i si h1 h2 hsi => by
        cases he' : isEff si with
        | false => rfl
        | true =>
          have hp' := hc.pair i j si so h2 hsi hso
          simp only [pairOk, Bool.and_eq_true, he, he', Bool.and_self, Bool.not_true, Bool.false_or, hju, Bool.and_false, Bool.false_and, Bool.or_false] at hp'
          have := (heff i si hsi he').1 (hcl i hp'.1.1.1.2)
          omega)
      have hev : stepS call eS (M p) (C p) so = some (R j, M (j + 1), C (j + 1)) := by rw [hcong, ← hsame.1, ← hsame.2]; exact htj
      have hMj := hMj.resolve_right (fun h => by rw [h.quiet] at he; cases he)
      refine wpOp_sound hcall hMj hG hev (fun v ρ' w' hst' hv => hnext (j + 1) v ρ' w' (by omega) ?_ hst' hv ?_)
      · intro i si hsi he'
        rcases Nat.lt_trichotomy i j with h | h | h
        · have hp' := hc.pair i j si so h hsi hso
          simp only [pairOk, Bool.and_eq_true, he, he', Bool.and_self, Bool.not_true, Bool.false_or, hju, Bool.and_false, Bool.false_and, Bool.or_false] at hp'
          exact ⟨fun _ => by omega, fun _ => Or.inr (hcl i hp'.1.1.1.2)⟩
        · exact ⟨fun _ => by omega, fun _ => Or.inl h⟩
        · have hp' := hc.pair j i so si h hso hsi
          simp only [pairOk, Bool.and_eq_true, he, he', Bool.and_self, Bool.not_true, Bool.false_or, hju, Bool.and_false, Bool.false_and, Bool.or_false] at hp'
          have hi : i < ops.size := by rw [← hc.len]; exact (List.getElem?_eq_some_iff.1 hsi).1
          refine ⟨fun hh => ?_, fun hh => by omega⟩
          rcases hh with hh | hh
          · omega
          · exact absurd hh (hcl2 i hi hp'.1.1.1.2)
      · intro i hi id b hb
        rcases Nat.lt_or_ge p i with h1 | h1
        · rcases Nat.lt_or_ge i (j + 1) with h2 | h2
          · have hs2 := hrun p i (by omega) (by omega) (fun i' si' h3 h4 hsi' => by
              cases he' : isEff si' with
              | false => rfl
              | true =>
                have hp' := hc.pair i' j si' so (by omega) hsi' hso
                simp only [pairOk, Bool.and_eq_true, he, he', Bool.and_self, Bool.not_true, Bool.false_or, hju, Bool.and_false, Bool.false_and, Bool.or_false] at hp'
                have := (heff i' si' hsi' he').1 (hcl i' hp'.1.1.1.2)
                omega)
            rw [hs2.1] at hb
            rw [hs2.2]
            exact hst.rel.lt id b hb
          · have : i = j + 1 := by omega
            subst this
            exact hst'.rel.lt id b hb
        · exact hwf i h1 id b hb
    · -- it only looks
      have he' : isEff so = false := by simpa using he
      have hev : stepS call eS (M p) (C p) so = some (R j, M p, C p) := by
        rw [hcong]
        unfold stepS at htj ⊢
        split at htj
        · rename_i hw
          cases hk : kindOf so.op with
          | p => exact (kind_p hk htj).2.2 _ _
          | mild => simp [isEff, hk] at he'
          | hard => simp [isEff, hk] at he'
          | l =>
            obtain ⟨h1, h2, id, b, h3, h4, h5⟩ := kind_l hk htj
            refine h5 _ _ ?_
            -- the number is one that there is
            have hid : id < C p := by
              obtain ⟨k, off, h6, h7⟩ := lookT_inv ((hc.look j so hso).1 hk) h3
              have h8 := heS k
              rw [hag k (by simp [usesS, h6]), h7] at h8
              exact (ptr_inv h8).1
            rcases Nat.lt_or_ge j p with hjp | hjp
            · -- what was done ahead of its turn
              have key : ∀ q, j ≤ q → q ≤ p → M q id = M j id := by
                intro q hq1
                induction q with
                | zero => intro _; have : j = 0 := by omega
                          subst this; rfl
                | succ q ihq =>
                  intro hq2
                  rcases Nat.lt_or_ge q j with h9 | h9
                  · have : j = q + 1 := by omega
                    subst this; rfl
                  · have ih2 := ihq h9 (by omega)
                    obtain ⟨sq, hsq⟩ : ∃ sq, ss[q]? = some sq := ⟨ss[q]'(by omega), List.getElem?_eq_getElem (by omega)⟩
                    cases heq' : isEff sq with
                    | false => rw [(hstill q sq hsq heq').1]; exact ih2
                    | true =>
                      have hls := (heff q sq hsq heq').2 (by omega)
                      have hqj : q ≠ j := fun e => by subst e; exact hjn hls
                      by_cases hh : kindOf sq.op = .hard
                      · have hp' := hc.pair j q so sq (by omega) hso hsq
                        simp only [pairOk, Bool.and_eq_true, hk, hh, beq_self_eq_true, Bool.and_self, Bool.not_true, Bool.false_or, Bool.or_eq_true] at hp'
                        have hq3 : q < ops.size := by rw [← hc.len]; omega
                        rcases hp'.1.1.2 with h10 | h10
                        · exact absurd hls (hcl2 q hq3 h10)
                        · rw [(hapart j so q sq id hso hsq h10 h3).2 (hwf q (by omega) id b (by rw [ih2]; exact h4))]; exact ih2
                      · rw [(hmild q sq hsq hh).2 id (hwf q (by omega) id b (by rw [ih2]; exact h4))]
                        exact ih2
              exact key p (by omega) (Nat.le_refl _)
            · -- what is done behind its turn
              have key : ∀ q, p ≤ q → q ≤ j → M q id = M p id ∧ C p ≤ C q := by
                intro q hq1
                induction q with
                | zero => intro _; have : p = 0 := by omega
                          subst this; exact ⟨rfl, Nat.le_refl _⟩
                | succ q ihq =>
                  intro hq2
                  rcases Nat.lt_or_ge q p with h9 | h9
                  · have : p = q + 1 := by omega
                    subst this; exact ⟨rfl, Nat.le_refl _⟩
                  · have ih2 := ihq h9 (by omega)
                    obtain ⟨sq, hsq⟩ : ∃ sq, ss[q]? = some sq := ⟨ss[q]'(by omega), List.getElem?_eq_getElem (by omega)⟩
                    cases heq' : isEff sq with
                    | false =>
                      have := hstill q sq hsq heq'
                      rw [this.1, this.2]; exact ih2
                    | true =>
                      by_cases hh : kindOf sq.op = .hard
                      · have hp' := hc.pair q j sq so (by omega) hsq hso
                        simp only [pairOk, Bool.and_eq_true, hk, hh, beq_self_eq_true, Bool.and_self, Bool.not_true, Bool.false_or, Bool.or_eq_true] at hp'
                        rcases hp'.1.2 with h10 | h10
                        · have := (heff q sq hsq heq').1 (hcl q h10)
                          omega
                        · have h11 := hapart j so q sq id hso hsq h10 h3
                          exact ⟨by rw [h11.2 (by omega)]; exact ih2.1, Nat.le_trans ih2.2 h11.1⟩
                      · have h10 := hmild q sq hsq hh
                        exact ⟨by rw [h10.2 id (by omega)]; exact ih2.1, Nat.le_trans ih2.2 h10.1⟩
              exact (key j hjp (Nat.le_refl _)).1.symm
        · rename_i hw
          simp only [Option.some.injEq, Prod.mk.injEq] at htj
          rw [htj.1]
      have hlast : ∀ i si, ss[i]? = some si → isEff si = true → ((i = j ∨ Lst listed i) ↔ i < p) := by
        intro i si hsi hei
        rw [← heff i si hsi hei]
        constructor
        · rintro (rfl | h)
          · rw [hso] at hsi; cases hsi; rw [he'] at hei; cases hei
          · exact h
        · exact Or.inr

      rcases hMj with hMj | hpre
      · exact wpOp_sound hcall hMj hG hev (fun v ρ' w' hst' hv => hnext p v ρ' w' hp hlast hst' hv hwf)
      · have hkeep : ∀ q, q ≤ p → (∀ id, id < C 0 → M q id = M 0 id) ∧ C 0 ≤ C q := by
          intro q
          induction q with
          | zero => exact fun _ => ⟨fun _ _ => rfl, Nat.le_refl _⟩
          | succ q ihq =>
            intro hq
            obtain ⟨h1, h2⟩ := ihq (by omega)
            obtain ⟨sq, hsq⟩ : ∃ sq, ss[q]? = some sq := ⟨ss[q]'(by omega), List.getElem?_eq_getElem (by omega)⟩
            have hnh : kindOf sq.op ≠ .hard := fun hh => by
              have hls := (heff q sq hsq (by simp [isEff, hh])).2 (by omega)
              exact hcl2 q (by rw [← hc.len]; omega) (hpre.first q sq hsq hh) hls
            obtain ⟨h3, h4⟩ := hmild q sq hsq hnh
            exact ⟨fun id hid => (h4 id (by omega)).trans (h1 id hid), Nat.le_trans h2 h3⟩
        obtain ⟨hk1, hk2⟩ := hkeep p (Nat.le_refl _)
        have hJ : MRel ρ (C 0) w (frz (M 0)) := by
          have hfz : ∀ id b, frz (M 0) id = some b → ∃ b0, M 0 id = some b0 ∧ b = ⟨b0.cells, false⟩ := fun id b hb => by
            unfold frz at hb
            obtain ⟨b0, h1, h2⟩ := Option.map_eq_some_iff.1 hb
            exact ⟨b0, h1, h2.symm⟩
          refine ⟨fun id b hb => ?_, fun id b hb => ?_, fun id b hb i c hci => ?_, fun id b hb ho => ?_, fun id b hb ho => ?_⟩
          · obtain ⟨b0, h1, _⟩ := hfz id b hb
            exact hm0.lt id b0 h1
          · obtain ⟨b0, h1, _⟩ := hfz id b hb
            exact hst.rel.blk id b0 (by rw [hk1 id (hm0.lt id b0 h1)]; exact h1)
          · obtain ⟨b0, h1, rfl⟩ := hfz id b hb
            obtain ⟨v0, _, h3⟩ := hm0.cells id b0 h1 i c hci
            obtain ⟨v, h4, h5⟩ := hst.rel.cells id b0 (by rw [hk1 id (hm0.lt id b0 h1)]; exact h1) i c hci
            exact ⟨v, h4, CRel.shrink c v0 v h3 h5⟩
          · obtain ⟨b0, h1, rfl⟩ := hfz id b hb
            cases ho
          · obtain ⟨b0, h1, rfl⟩ := hfz id b hb
            cases ho
        refine hpre.runs ρ (C p) w (M p) a _ hst.rel hgl hJ hst.le hI.tmps (fun t hno => ?_) (fun t ht => by rw [← hag t ht]; exact heS t) (fun v ρ' w' hst' hv => hnext p v ρ' w' hp hlast hst' hv hwf)
        exact (henv t).2 (fun i si hsi hd => absurd hd (hno i si hsi))
  induction fuel with
  | zero =>
    intro listed a w hl hI
    have hr : Region.ready .any ops listed = [] := by
      cases hc' : Region.ready .any ops listed with
      | nil => rfl
      | cons x xs =>
        have := (hready listed a w hI x).1 (by rw [hc']; simp)
        have h0 : left ss.length listed = 0 := by omega
        unfold left at h0
        rw [List.countP_eq_zero] at h0
        have h1 := h0 x (by simpa using this.1)
        have hsz := hI.size
        have h2 : listed.getD x true = listed.getD x false := by
          simp [Array.getD_eq_getD_getElem?, Array.getElem?_eq_getElem (show x < listed.size by omega)]
        rw [h2] at h1
        exact absurd (by simpa [Lst] using h1) this.2.1
    exact ⟨hr, hend listed a w hI hr⟩
  | succ fuel ih =>
    intro listed a w hl hI
    refine ⟨fun hr => hend listed a w hI hr, fun i hi => ?_⟩
    exact hstep (fun l' a' w' => wpAnyIn F nf P .any ops Q fuel l' a' w') listed a w hI (fun listed' a' w' h1 h2 => ih listed' a' w' (by omega) h2) i hi
end
end Go.Proofs.Ytkdbnmohpanpfaa.Sy
