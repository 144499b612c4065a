/- An evaluator of a part of Go's operations over a memory of its own, part fourteen: constant allocs whose order is drawn. Conditions: those that each theorem names. -/
import Derived.Test.YtkdbnmohpanpfaaSyM
namespace Go.Proofs.Ytkdbnmohpanpfaa.Sy
open Go
set_option linter.unusedVariables false
set_option linter.unusedSimpArgs false

/-! ### what speaks of few numbers alone -/
mutual
theorem CRel.back {ρ0 ρ : Loc} {n0 n : Nat} {w0 w : World} (hρ : ∀ id, id < n0 → ρ id = ρ0 id) : ∀ (c : Cell) (v0 v : Value), CRel ρ0 n0 w0 c v0 → CRel ρ n w c v → CRel ρ0 n0 w c v
  | .sc x, v0, v, h0, h => h
  | .ptr id off, v0, v, h0, h => by
    refine ⟨h0.1, ?_⟩
    rw [← hρ id h0.1]
    exact h.2
  | .sl id off len cap sz, v0, v, h0, h => by
    have hl : id < n0 := h0.1
    obtain ⟨_, o, cp, h1, h2, h3, h4, h5⟩ := h
    rw [hρ id hl] at h1 h2 h5
    exact ⟨hl, o, cp, h1, h2, h3, h4, h5⟩
  | .clo f caps, v0, v, h0, h => by
    obtain ⟨vs0, _, g0⟩ := h0
    obtain ⟨vs, h1, g⟩ := h
    exact ⟨vs, h1, CRels.back hρ caps vs0 vs g0 g⟩
theorem CRels.back {ρ0 ρ : Loc} {n0 n : Nat} {w0 w : World} (hρ : ∀ id, id < n0 → ρ id = ρ0 id) : ∀ (cs : List Cell) (vs0 vs : List Value), CRels ρ0 n0 w0 cs vs0 → CRels ρ n w cs vs → CRels ρ0 n0 w cs vs
  | [], vs0, vs, h0, h => h
  | c :: cs, vs0, vs, h0, h => by
    obtain ⟨v0, r0, _, g1, g2⟩ := h0
    obtain ⟨v, r, h1, h2, h3⟩ := h
    exact ⟨v, r, h1, CRel.back hρ c v0 v g1 h2, CRels.back hρ cs r0 r g2 h3⟩
end

/-- A value that is flat, or that points into what there is. -/
def safeC (m : Mem) : Cell → Bool
  | .sc _ => true
  | .ptr id _ => (m id).isSome
  | .sl id _ _ _ _ => (m id).isSome
  | _ => false
def safeR (m : Mem) (r : Reg) : Bool := r.flat || (match r with
  | .one (.ptr id _) => (m id).isSome
  | .one (.sl id _ _ _ _) => (m id).isSome
  | .agg cs => cs.all (safeC m)
  | _ => false)

theorem safeC_rel {ρ0 ρ : Loc} {n0 n : Nat} {w : World} {m : Mem} (hρ : ∀ id, id < n0 → ρ id = ρ0 id) (hlt : ∀ id b, m id = some b → id < n0) {c : Cell} {v : Value} (hs : safeC m c = true) (h : CRel ρ n w c v) : CRel ρ0 n0 w c v := by
  cases c with
  | sc x => exact h
  | ptr id off =>
    obtain ⟨b, hb⟩ := Option.isSome_iff_exists.1 hs
    have hl := hlt id b hb
    exact ⟨hl, by rw [← hρ id hl]; exact h.2⟩
  | sl id off len cap sz =>
    obtain ⟨b, hb⟩ := Option.isSome_iff_exists.1 hs
    have hl := hlt id b hb
    obtain ⟨_, o, cp, h1, h2, h3, h4, h5⟩ := h
    rw [hρ id hl] at h1 h2 h5
    exact ⟨hl, o, cp, h1, h2, h3, h4, h5⟩
  | clo f cs => cases hs
theorem safeCs_rel {ρ0 ρ : Loc} {n0 n : Nat} {w : World} {m : Mem} (hρ : ∀ id, id < n0 → ρ id = ρ0 id) (hlt : ∀ id b, m id = some b → id < n0) : ∀ {cs : List Cell} {vs : List Value}, cs.all (safeC m) = true → CRels ρ n w cs vs → CRels ρ0 n0 w cs vs
  | [], vs, _, h => h
  | c :: cs, vs, hs, h => by
    rw [List.all_cons, Bool.and_eq_true] at hs
    obtain ⟨v, r, h1, h2, h3⟩ := h
    exact ⟨v, r, h1, safeC_rel hρ hlt hs.1 h2, safeCs_rel hρ hlt hs.2 h3⟩

theorem safe_rel {ρ0 ρ : Loc} {n0 n : Nat} {w : World} {m : Mem} {r : Reg} {v : Value} (hρ : ∀ id, id < n0 → ρ id = ρ0 id) (hlt : ∀ id b, m id = some b → id < n0) (hs : safeR m r = true) (h : RRel ρ n w r v) : RRel ρ0 n0 w r v := by
  unfold safeR at hs
  rw [Bool.or_eq_true] at hs
  rcases hs with hs | hs
  · exact flat_rel hs h
  · split at hs
    · rename_i id off
      obtain ⟨b, hb⟩ := Option.isSome_iff_exists.1 hs
      have hl := hlt id b hb
      exact ⟨hl, by rw [← hρ id hl]; exact h.2⟩
    · rename_i id off len cap sz
      obtain ⟨b, hb⟩ := Option.isSome_iff_exists.1 hs
      have hl := hlt id b hb
      obtain ⟨_, o, cp, h1, h2, h3, h4, h5⟩ := h
      rw [hρ id hl] at h1 h2 h5
      exact ⟨hl, o, cp, h1, h2, h3, h4, h5⟩
    · obtain ⟨vs, h1, h2⟩ := h
      exact ⟨vs, h1, safeCs_rel hρ hlt hs h2⟩
    · cases hs

def isSc : Cell → Bool
  | .sc _ => true
  | _ => false
/-- A constant alloc, and its variable. -/
def allocOf (so : SOper) : Option (Nat × List Cell) :=
  match so with
  | ⟨some d, .alloc z, none⟩ => if z.all isSc then some (d, z) else none
  | _ => none
theorem allocOf_inv {so : SOper} {d : Nat} {z : List Cell} (h : allocOf so = some (d, z)) : so = ⟨some d, .alloc z, none⟩ ∧ z.all isSc = true := by
  unfold allocOf at h
  split at h
  · split at h
    · rename_i hz; cases h; exact ⟨rfl, hz⟩
    · cases h
  · cases h
theorem sc_rel {ρ ρ' : Loc} {n n' : Nat} {w w' : World} {c : Cell} {v : Value} (hc : isSc c = true) (h : CRel ρ n w c v) : CRel ρ' n' w' c v := by
  cases c with
  | sc x => exact h
  | _ => cases hc

/-- Is the operation j behind all of U? else it only looks, at nothing of U, and its variable is told. -/
def jOk (us es : List Nat) (cl : List (List Nat)) (ss : List SOper) (j : Nat) (so : SOper) : Bool :=
  us.contains j || us.all (fun u => inC cl u j) ||
    (!isEff so && us.all (fun u => match ss[u]? with
      | some su => (match su.dst with | some d => !(usesS so).contains d | none => false)
      | none => false) &&
     (match so.dst with | some d => es.contains d | none => true) &&
     (List.range j).all fun i => us.contains i || (match ss[i]? with | some si => !isEff si | none => false))
def uOk (us es : List Nat) (cl : List (List Nat)) (ss : List SOper) : Bool :=
  us.all (fun u => match ss[u]? with | some so => (allocOf so).isSome | none => false) &&
  (List.range ss.length).all fun j => match ss[j]? with | some so => jOk us es cl ss j so | none => true
def safeOk (m : Mem) (env : Nat → Reg) (es : List Nat) : Bool := es.all fun t => safeR m (env t)

section
variable {us es : List Nat} {dis : List (Nat × Nat)} {P : Program} {ng N : Nat} {md : Nat → Mode} {ops : Array Oper} {ss : List SOper} {cl : List (List Nat)} {call : Callf} {Q : Exit → Act → World → Prop}

theorem inC_lt (hc : Chk us dis ops ss cl) : ∀ (j i : Nat), j < ops.size → inC cl i j = true → i < j := by
  intro j
  induction j using Nat.strongRecOn with
  | _ j ih =>
    intro i hj hi
    obtain ⟨o, ho⟩ : ∃ o, ops[j]? = some o := ⟨ops[j], Array.getElem?_eq_getElem hj⟩
    obtain ⟨h1, h2⟩ := hc.clo j o ho
    have hi' : i ∈ cl.getD j [] := by simpa [inC] using hi
    obtain ⟨e, he, hb, hor⟩ := h2 i hi'
    have hlt := h1 e he hb
    rcases hor with rfl | hor
    · exact hlt
    · have := ih e.on hlt i (by omega) hor
      omega

/-- What holds while not all of U is listed. -/
structure InvA (us : List Nat) (P : Program) (ng N : Nat) (ss : List SOper) (ops : Array Oper) (E : Nat → Nat → Reg) (M : Nat → Mem) (C : Nat → Nat) (R : Nat → Reg) (ρ0 : Loc) (w0 : World) (d0 : List Deferred) (listed : Array Bool) (a : Act) (w : World) : Prop where
  size : listed.size = ss.length
  down : ∀ j o, Lst listed j → ops[j]? = some o → ∀ e ∈ o.after.toList, Region.binds .any e = true → Lst listed e.on
  tmps : a.tmps.size = N
  defers : a.defers = d0
  ex : ∃ (β : Nat → Nat) (q : Nat) (ρ : Loc) (m' : Mem), Step ρ0 (C 0) w0 (M 0) ρ (C 0 + q) w m' ∧ Glob ng ρ (C 0 + q) ∧
    (∀ id, id < C 0 → m' id = M 0 id) ∧
    (∀ u ∈ us, Lst listed u → C 0 ≤ β u ∧ β u < C 0 + q ∧ ∀ so d z, ss[u]? = some so → allocOf so = some (d, z) → m' (β u) = some ⟨z, true⟩ ∧ RRel ρ (C 0 + q) w (.one (.ptr (β u) 0)) (a.tmps.getD d undef)) ∧
    (∀ u ∈ us, ∀ v ∈ us, Lst listed u → Lst listed v → β u = β v → u = v) ∧
    (∀ t, (∀ i so, ss[i]? = some so → so.dst = some t → i ∉ us → Lst listed i → RRel ρ0 (C 0) w (R i) (a.tmps.getD t undef)) ∧ ((∀ i so, ss[i]? = some so → so.dst = some t → ¬ Lst listed i) → RRel ρ0 (C 0) w (E 0 t) (a.tmps.getD t undef)))

def topU (us : List Nat) : Nat := us.foldr (fun u k => max (u + 1) k) 0
theorem topU_lt : ∀ {us : List Nat} {u : Nat}, u ∈ us → u < topU us
  | x :: us, u, h => by
    simp only [topU, List.foldr_cons]
    rcases List.mem_cons.1 h with rfl | h
    · omega
    · have := topU_lt h
      simp only [topU] at this
      omega
theorem topU_ex : ∀ {us : List Nat} {j : Nat}, j < topU us → ∃ u ∈ us, j ≤ u
  | [], j, h => by simp [topU] at h
  | x :: us, j, h => by
    simp only [topU, List.foldr_cons] at h
    by_cases hx : j ≤ x
    · exact ⟨x, by simp, hx⟩
    · obtain ⟨u, h1, h2⟩ := topU_ex (us := us) (j := j) (by simp only [topU]; omega)
      exact ⟨u, by simp [h1], h2⟩

theorem still_of {E : Nat → Nat → Reg} {M : Nat → Mem} {C : Nat → Nat} {R : Nat → Reg} (htr : ∀ i so, ss[i]? = some so → stepS call (E i) (M i) (C i) so = some (R i, M (i + 1), C (i + 1)) ∧ E (i + 1) = putE (E i) so.dst (R i)) :
    ∀ i so, ss[i]? = some so → isEff so = false → M (i + 1) = M i ∧ C (i + 1) = C i := by
  intro i so hso hne
  have h1 := (htr i so hso).1
  unfold stepS at h1
  split at h1
  · cases hk : kindOf so.op with
    | p => have := kind_p hk h1; exact ⟨this.1, this.2.1⟩
    | l => have := kind_l hk h1; exact ⟨this.1, this.2.1⟩
    | mild => simp [isEff, hk] at hne
    | hard => simp [isEff, hk] at hne
  · simp only [Option.some.injEq, Prod.mk.injEq] at h1; exact ⟨h1.2.1.symm, h1.2.2.symm⟩

theorem alloc_of {E : Nat → Nat → Reg} {M : Nat → Mem} {C : Nat → Nat} {R : Nat → Reg} (htr : ∀ i so, ss[i]? = some so → stepS call (E i) (M i) (C i) so = some (R i, M (i + 1), C (i + 1)) ∧ E (i + 1) = putE (E i) so.dst (R i))
    {u d : Nat} {z : List Cell} {so : SOper} (hso : ss[u]? = some so) (ha : allocOf so = some (d, z)) : R u = .one (.ptr (C u) 0) ∧ M (u + 1) = upd (M u) (C u) (some ⟨z, true⟩) ∧ C (u + 1) = C u + 1 := by
  obtain ⟨rfl, hz⟩ := allocOf_inv ha
  have h1 := (htr u _ hso).1
  simp only [stepS, wantedS, evalOp, Option.some.injEq, Prod.mk.injEq] at h1
  exact ⟨h1.1.symm, h1.2.1.symm, h1.2.2.symm⟩

/-- The way up to the last of U. -/
theorem before {E : Nat → Nat → Reg} {M : Nat → Mem} {C : Nat → Nat} {R : Nat → Reg} (htr : ∀ i so, ss[i]? = some so → stepS call (E i) (M i) (C i) so = some (R i, M (i + 1), C (i + 1)) ∧ E (i + 1) = putE (E i) so.dst (R i))
    (hua : ∀ u ∈ us, ∃ so d z, ss[u]? = some so ∧ allocOf so = some (d, z)) (hm0 : ∀ id b, M 0 id = some b → id < C 0) :
    ∀ i, i ≤ ss.length → (∀ (j : Nat) (so : SOper), j < i → ss[j]? = some so → j ∈ us ∨ isEff so = false) →
      C 0 ≤ C i ∧ (∀ id, id < C 0 → M i id = M 0 id) ∧ (∀ id b, M i id = some b → id < C i) ∧ (∀ id, C 0 ≤ id → id < C i → ∃ u ∈ us, u < i ∧ id = C u) ∧
      (∀ u ∈ us, u < i → C 0 ≤ C u ∧ C u < C i ∧ ∀ so d z, ss[u]? = some so → allocOf so = some (d, z) → M i (C u) = some ⟨z, true⟩)
  | 0, _, _ => ⟨Nat.le_refl _, fun _ _ => rfl, hm0, fun id h1 h2 => by omega, fun u _ h => by omega⟩
  | i + 1, hi, hj => by
    obtain ⟨h1, h2, h3, h4, h5⟩ := before htr hua hm0 i (by omega) (fun j so hlt hso => hj j so (by omega) hso)
    obtain ⟨so, hso⟩ : ∃ so, ss[i]? = some so := ⟨ss[i]'(by omega), List.getElem?_eq_getElem (by omega)⟩
    by_cases hiu : i ∈ us
    · obtain ⟨so', d, z, hso', ha⟩ := hua i hiu
      obtain ⟨_, hM1, hC1⟩ := alloc_of htr hso' ha
      refine ⟨by omega, fun id hid => ?_, fun id b hb => ?_, fun id g1 g2 => ?_, fun u hu hlt => ?_⟩
      · rw [hM1, upd_ne _ _ (by omega)]; exact h2 id hid
      · rw [hM1] at hb
        by_cases e : id = C i
        · omega
        · rw [upd_ne _ _ e] at hb
          have := h3 id b hb
          omega
      · by_cases e : id = C i
        · exact ⟨i, hiu, by omega, e⟩
        · obtain ⟨u, q1, q2, q3⟩ := h4 id g1 (by omega)
          exact ⟨u, q1, by omega, q3⟩
      · by_cases e : u = i
        · subst e
          refine ⟨h1, by omega, fun so2 d2 z2 q1 q2 => ?_⟩
          rw [hso'] at q1
          cases q1
          rw [ha] at q2
          cases q2
          rw [hM1, upd_same]
        · obtain ⟨q1, q2, q3⟩ := h5 u hu (by omega)
          refine ⟨q1, by omega, fun so2 d2 z2 g1 g2 => ?_⟩
          rw [hM1, upd_ne _ _ (by omega)]
          exact q3 so2 d2 z2 g1 g2
    · have hne := (hj i so (by omega) hso).resolve_left hiu
      obtain ⟨hM1, hC1⟩ := still_of htr i so hso hne
      rw [hM1, hC1]
      refine ⟨h1, h2, h3, fun id g1 g2 => ?_, fun u hu hlt => ?_⟩
      · obtain ⟨u, q1, q2, q3⟩ := h4 id g1 g2
        exact ⟨u, q1, by omega, q3⟩
      · exact h5 u hu (by
          have : u ≠ i := fun e => hiu (e ▸ hu)
          omega)

theorem topU_le {L : Nat} : ∀ {us : List Nat}, (∀ u ∈ us, u < L) → topU us ≤ L
  | [], _ => Nat.zero_le _
  | x :: us, h => by
    have h1 := topU_le (us := us) (fun u hu => h u (by simp [hu]))
    have h2 := h x (by simp)
    simp only [topU, List.foldr_cons] at h1 ⊢
    omega

theorem u_alloc (hu : uOk us es cl ss = true) : ∀ u ∈ us, ∃ so d z, ss[u]? = some so ∧ allocOf so = some (d, z) := by
  intro u hm
  simp only [uOk, Bool.and_eq_true, List.all_eq_true] at hu
  have := hu.1 u hm
  split at this
  · rename_i so hso
    obtain ⟨x, hx⟩ := Option.isSome_iff_exists.1 this
    exact ⟨so, x.1, x.2, hso, hx⟩
  · cases this
theorem u_job (hu : uOk us es cl ss = true) {j : Nat} {so : SOper} (hso : ss[j]? = some so) : jOk us es cl ss j so = true := by
  simp only [uOk, Bool.and_eq_true, List.all_eq_true, List.mem_range] at hu
  have := hu.2 j (List.getElem?_eq_some_iff.1 hso).1
  rw [hso] at this
  exact this
theorem u_late (hu : uOk us es cl ss = true) {j : Nat} {so : SOper} (hso : ss[j]? = some so) (hj : j ∉ us) (he : isEff so = true) : ∀ u ∈ us, inC cl u j = true := by
  have h := u_job hu hso
  have hc : us.contains j = false := by
    cases h : us.contains j with
    | false => rfl
    | true => exact absurd (List.contains_iff_mem.1 h) hj
  simp only [jOk, hc, he, Bool.false_or, Bool.not_true, Bool.false_and, Bool.or_false, List.all_eq_true] at h
  exact h

theorem switch (hc : Chk us dis ops ss cl) {E : Nat → Nat → Reg} {M : Nat → Mem} {C : Nat → Nat} {R : Nat → Reg} {ρ0 : Loc} {w0 : World} {d0 : List Deferred}
    (htr : ∀ i so, ss[i]? = some so → stepS call (E i) (M i) (C i) so = some (R i, M (i + 1), C (i + 1)) ∧ E (i + 1) = putE (E i) so.dst (R i))
    (hu : uOk us es cl ss = true) (hm0 : MRel ρ0 (C 0) w0 (M 0)) (hg0 : Glob ng ρ0 (C 0)) {listed : Array Bool} {a : Act} {w : World} (hI : InvA us P ng N ss ops E M C R ρ0 w0 d0 listed a w)
    (hall : ∀ u ∈ us, Lst listed u) (hnone : ∀ (j : Nat) (so : SOper), ss[j]? = some so → j ∉ us → isEff so = true → ¬ Lst listed j) : Inv us P ng N ss ops E M C R ρ0 w0 d0 listed a w := by
  obtain ⟨β, q, ρ, m', hst, hgl, hm', hβ, hinj, henv⟩ := hI.ex
  have hua := u_alloc hu
  have hlate : ∀ (j : Nat) (so : SOper), j < topU us → ss[j]? = some so → j ∈ us ∨ isEff so = false := by
    intro j so hlt hso
    by_cases hj : j ∈ us
    · exact Or.inl hj
    · right
      cases he : isEff so with
      | false => rfl
      | true =>
        obtain ⟨u, h1, h2⟩ := topU_ex hlt
        have := inC_lt hc j u (by rw [← hc.len]; exact (List.getElem?_eq_some_iff.1 hso).1) (u_late hu hso hj he u h1)
        omega
  have hp : topU us ≤ ss.length := topU_le (fun u hm => by
    obtain ⟨so, d, z, hso, _⟩ := hua u hm
    exact (List.getElem?_eq_some_iff.1 hso).1)
  have hbef := fun (i : Nat) (hi : i ≤ topU us) => before htr hua hm0.lt i (by omega) (fun j so hlt hso => hlate j so (by omega) hso)
  obtain ⟨b1, b2, b3, b4, b5⟩ := hbef (topU us) (Nat.le_refl _)
  have hCinj : ∀ u ∈ us, ∀ v ∈ us, C u = C v → u = v := by
    intro u h1 v h2 he
    rcases Nat.lt_trichotomy u v with h | h | h
    · have := ((hbef v (Nat.le_of_lt (topU_lt h2))).2.2.2.2 u h1 h).2.1
      omega
    · exact h
    · have := ((hbef u (Nat.le_of_lt (topU_lt h1))).2.2.2.2 v h2 h).2.1
      omega
  have hdec : ∀ id, Decidable (∃ u, u ∈ us ∧ C u = id) := fun id => Classical.propDecidable _
  obtain ⟨ρ', hρ1, hρ2⟩ : ∃ ρ' : Loc, (∀ u ∈ us, ρ' (C u) = ρ (β u)) ∧ (∀ id, id < C 0 → ρ' id = ρ id) := by
    refine ⟨fun id => if h : ∃ u, u ∈ us ∧ C u = id then ρ (β h.choose) else ρ id, fun u hm => ?_, fun id hid => ?_⟩
    · have h : ∃ u', u' ∈ us ∧ C u' = C u := ⟨u, hm, rfl⟩
      simp only [dif_pos h]
      rw [hCinj _ h.choose_spec.1 u hm h.choose_spec.2]
    · have h : ¬ ∃ u', u' ∈ us ∧ C u' = id := by
        rintro ⟨u, hm, he⟩
        have := (b5 u hm (topU_lt hm)).1
        omega
      simp only [dif_neg h]
  have htrn : ∀ id b, M (topU us) id = some b → ∃ id', m' id' = some b ∧ ρ' id = ρ id' ∧ ((id < C 0 ∧ id' = id ∧ M 0 id = some b) ∨ ∃ u ∈ us, id = C u ∧ id' = β u ∧ b.cells.all isSc = true) := by
    intro id b hb
    rcases Nat.lt_or_ge id (C 0) with h | h
    · have h2 := b2 id h
      rw [h2] at hb
      exact ⟨id, by rw [hm' id h]; exact hb, hρ2 id h, Or.inl ⟨h, rfl, hb⟩⟩
    · obtain ⟨u, h1, h2, rfl⟩ := b4 id h (b3 id b hb)
      obtain ⟨so, d, z, hso, ha⟩ := hua u h1
      have h3 := (b5 u h1 h2).2.2 so d z hso ha
      rw [h3] at hb
      cases hb
      exact ⟨β u, ((hβ u h1 (hall u h1)).2.2 so d z hso ha).1, hρ1 u h1, Or.inr ⟨u, h1, rfl, rfl, (allocOf_inv ha).2⟩⟩
  have hLe : Le ρ0 (C 0) w ρ' (C (topU us)) w := ⟨b1, fun id hid => by rw [hρ2 id hid]; exact hst.le.loc id hid, fun _ h => h⟩
  have hLe0 : Le ρ0 (C 0) w0 ρ' (C (topU us)) w := ⟨b1, fun id hid => by rw [hρ2 id hid]; exact hst.le.loc id hid, hst.le.live⟩
  have hrel : MRel ρ' (C (topU us)) w (M (topU us)) := by
    refine ⟨b3, fun id b hb => ?_, fun id b hb i c hi => ?_, fun id b hb ho o => ?_, fun id b hb ho id2 b2' hb2 hne => ?_⟩
    · obtain ⟨id', h1, h2, _⟩ := htrn id b hb
      rw [h2]
      exact hst.rel.blk id' b h1
    · obtain ⟨id', h1, h2, h3⟩ := htrn id b hb
      obtain ⟨v, h4, h5⟩ := hst.rel.cells id' b h1 i c hi
      refine ⟨v, by rw [h2]; exact h4, ?_⟩
      rcases h3 with ⟨hid, rfl, hb0⟩ | ⟨u, hm, _, _, hz⟩
      · obtain ⟨v0, _, h6⟩ := hm0.cells id' b hb0 i c hi
        exact CRel.mono hLe _ _ (CRel.back hst.le.loc c v0 v h6 h5)
      · exact sc_rel (List.all_eq_true.1 hz c (List.mem_of_getElem? hi)) h5
    · obtain ⟨id', h1, h2, _⟩ := htrn id b hb
      rw [h2]
      exact hst.rel.soft id' b h1 ho o
    · obtain ⟨i1, g1, g2, g3⟩ := htrn id b hb
      obtain ⟨i2, k1, k2, k3⟩ := htrn id2 b2' hb2
      rw [g2, k2]
      refine hst.rel.apart i1 b g1 ho i2 b2' k1 (fun e => hne ?_)
      rcases g3 with ⟨q1, q2, _⟩ | ⟨u, q1, q2, q3, _⟩
      · rcases k3 with ⟨p1, p2, _⟩ | ⟨v, p1, p2, p3, _⟩
        · omega
        · have := (hβ v p1 (hall v p1)).1
          omega
      · rcases k3 with ⟨p1, p2, _⟩ | ⟨v, p1, p2, p3, _⟩
        · have := (hβ u q1 (hall u q1)).1
          omega
        · have := hinj u q1 v p1 (hall u q1) (hall v p1) (by omega)
          subst this
          omega
  have hStep : Step ρ0 (C 0) w0 (M 0) ρ' (C (topU us)) w (M (topU us)) := by
    refine ⟨hLe0, hrel, hst.fr, fun id b hid hb => ⟨b, by rw [← b2 id hid]; exact hb, fun h => h⟩, fun id b hid hb => ?_⟩
    obtain ⟨id', h1, h2, h3⟩ := htrn id b hb
    rw [h2]
    rcases h3 with ⟨h, _⟩ | ⟨u, hm, _, rfl, _⟩
    · omega
    · exact hst.fresh _ b (hβ u hm (hall u hm)).1 h1
  refine ⟨hI.size, hI.down, hI.tmps, hI.defers, hall, topU us, ρ', hp, fun i so hso he => ?_, hStep, hg0.mono hLe0, fun t => ⟨fun i so hso hd hl => ?_, fun hno => ?_⟩, fun i hi => (hbef i hi).2.2.1⟩
  · by_cases hi : i ∈ us
    · exact ⟨fun _ => topU_lt hi, fun _ => hall i hi⟩
    · refine ⟨fun h => absurd h (hnone i so hso hi he), fun h => ?_⟩
      rcases hlate i so h hso with h1 | h1
      · exact absurd h1 hi
      · rw [he] at h1; cases h1
  · by_cases hi : i ∈ us
    · obtain ⟨so', d, z, hso', ha⟩ := hua i hi
      rw [hso] at hso'
      cases hso'
      have hdd : d = t := by
        have := (allocOf_inv ha).1
        rw [this] at hd
        exact Option.some.inj hd
      subst hdd
      rw [(alloc_of htr hso ha).1]
      have h1 := ((hβ i hi hl).2.2 so d z hso ha).2
      refine ⟨(b5 i hi (topU_lt hi)).2.1, ?_⟩
      rw [hρ1 i hi]
      exact h1.2
    · exact RRel.mono hLe _ _ ((henv t).1 i so hso hd hi hl)
  · exact RRel.mono hLe _ _ ((henv t).2 hno)

theorem vals (hc : Chk us dis ops ss cl) {E : Nat → Nat → Reg} {M : Nat → Mem} {C : Nat → Nat} {R : Nat → Reg} (htr : ∀ i so, ss[i]? = some so → stepS call (E i) (M i) (C i) so = some (R i, M (i + 1), C (i + 1)) ∧ E (i + 1) = putE (E i) so.dst (R i)) :
    ∀ j, j ≤ ss.length → ∀ t, (∀ (i : Nat) (so : SOper), i < j → ss[i]? = some so → so.dst = some t → E j t = R i) ∧ ((∀ (i : Nat) (so : SOper), i < j → ss[i]? = some so → so.dst ≠ some t) → E j t = E 0 t) := by
  intro j
  induction j with
  | zero => intro _ t; exact ⟨fun i so h => by omega, fun _ => rfl⟩
  | succ j ih =>
    intro hj t
    obtain ⟨so, hso⟩ : ∃ so, ss[j]? = some so := ⟨ss[j]'(by omega), List.getElem?_eq_getElem (by omega)⟩
    obtain ⟨ih1, ih2⟩ := ih (by omega) t
    rw [(htr j so hso).2]
    constructor
    · intro i si hij hsi hd
      rcases Nat.lt_or_ge i j with h1 | h1
      · have hp := hc.pair i j si so h1 hsi hso
        simp only [pairOk, hd, Bool.and_eq_true, bne_iff_ne, ne_eq] at hp
        have hne : so.dst ≠ some t := hp.1.1.1.1.1.1
        have : putE (E j) so.dst (R j) t = E j t := by
          cases hdd : so.dst with
          | none => rfl
          | some d => exact upd_ne _ _ (fun e => hne (by rw [hdd, e]))
        rw [this]
        exact ih1 i si h1 hsi hd
      · have : i = j := by omega
        subst this
        rw [hso] at hsi
        cases hsi
        rw [hd]
        exact upd_same _ _ _
    · intro hno
      have hne : so.dst ≠ some t := hno j so (by omega) hso
      have : putE (E j) so.dst (R j) t = E j t := by
        cases hdd : so.dst with
        | none => rfl
        | some d => exact upd_ne _ _ (fun e => hne (by rw [hdd, e]))
      rw [this]
      exact ih2 (fun i si hi => hno i si (by omega))

theorem ready_iff (hc : Chk us dis ops ss cl) : ∀ (listed : Array Bool), listed.size = ss.length → ∀ j, j ∈ Region.ready .any ops listed ↔ (j < ss.length ∧ ¬ Lst listed j ∧ ∀ o, ops[j]? = some o → ∀ e ∈ o.after.toList, Region.binds .any e = true → Lst listed e.on) := by
  intro listed hsz0 j
  simp only [Region.ready, List.mem_filter, List.mem_range, Bool.and_eq_true, Bool.not_eq_true']
  constructor
  · rintro ⟨h1, h2, h3⟩
    have hjs : j < ss.length := by rw [hc.len]; exact h1
    refine ⟨hjs, ?_, ?_⟩
    · intro hl
      have hsz := hsz0
      have : listed.getD j true = listed.getD j false := by
        simp [Array.getD_eq_getD_getElem?, Array.getElem?_eq_getElem (show j < listed.size by omega)]
      rw [this, hl] at h2
      cases h2
    · intro o ho e he hb
      rw [ho] at h3
      simp only [Option.map_some, Option.getD_some] at h3
      rw [← Array.all_toList, List.all_eq_true] at h3
      have := h3 e he
      rw [hb] at this
      simpa [Lst] using this
  · rintro ⟨h1, h2, h3⟩
    have hjo : j < ops.size := by rw [← hc.len]; exact h1
    refine ⟨hjo, ?_, ?_⟩
    · have hsz := hsz0
      have : listed.getD j true = listed.getD j false := by
        simp [Array.getD_eq_getD_getElem?, Array.getElem?_eq_getElem (show j < listed.size by omega)]
      rw [this]
      simpa [Lst] using h2
    · rw [Array.getElem?_eq_getElem hjo]
      simp only [Option.map_some, Option.getD_some]
      rw [← Array.all_toList, List.all_eq_true]
      intro e he
      have := h3 ops[j] (Array.getElem?_eq_getElem hjo) e he
      cases hb : Region.binds .any e with
      | false => rfl
      | true => simpa [Lst] using this hb

theorem uniq (hc : Chk us dis ops ss cl) : ∀ (i1 : Nat) (s1 : SOper) (i2 : Nat) (s2 : SOper) (t : Nat), ss[i1]? = some s1 → ss[i2]? = some s2 → s1.dst = some t → s2.dst = some t → i1 = i2 := by
  intro i1 s1 i2 s2 t h1 h2 h3 h4
  rcases Nat.lt_trichotomy i1 i2 with h | h | h
  · have := hc.pair i1 i2 s1 s2 h h1 h2
    simp [pairOk, h3, h4] at this
  · exact h
  · have := hc.pair i2 i1 s2 s1 h h2 h1
    simp [pairOk, h3, h4] at this

variable {F : Fence} {nf : Nat} [Wide F]

theorem wpAny_u (hcall : CallOK P ng call) (hc : Chk us dis ops ss cl) {E : Nat → Nat → Reg} {M : Nat → Mem} {C : Nat → Nat} {R : Nat → Reg} {ρ0 : Loc} {w0 : World} {d0 : List Deferred}
    (hM : ∀ i so, ss[i]? = some so → Matches P ng N md ops i so ∨ PreOp F nf P ng N ops ss cl E M C R ρ0 w0 Q i so)
    (htr : ∀ i so, ss[i]? = some so → stepS call (E i) (M i) (C i) so = some (R i, M (i + 1), C (i + 1)) ∧ E (i + 1) = putE (E i) so.dst (R i))
    (hdis : disOk (E ss.length) dis = true)
    (hQ : ∀ ρ' a' w', Step ρ0 (C 0) w0 (M 0) ρ' (C ss.length) w' (M ss.length) → Good N ng ρ' (C ss.length) w' (E ss.length) (M ss.length) a' → a'.defers = d0 → Q .normal a' w')
    (hu : uOk us es cl ss = true) (hsafe : safeOk (M 0) (E ss.length) es = true) (hm0 : MRel ρ0 (C 0) w0 (M 0)) (hg0 : Glob ng ρ0 (C 0)) :
    ∀ (fuel : Nat) (listed : Array Bool) (a : Act) (w : World), left ss.length listed ≤ fuel → (∃ u ∈ us, ¬ Lst listed u) → (∀ (j : Nat) (so : SOper), ss[j]? = some so → j ∉ us → isEff so = true → ¬ Lst listed j) → InvA us P ng N ss ops E M C R ρ0 w0 d0 listed a w → wpAnyIn F nf P .any ops Q fuel listed a w := by
  have hua := u_alloc hu
  have hE := vals (call := call) hc htr
  have huniq := uniq hc
  -- one step
  have hstep : ∀ (K : Array Bool → Act → World → Prop) (listed : Array Bool) a w, InvA us P ng N ss ops E M C R ρ0 w0 d0 listed a w → (∃ u ∈ us, ¬ Lst listed u) → (∀ (j : Nat) (so : SOper), ss[j]? = some so → j ∉ us → isEff so = true → ¬ Lst listed j) →
      (∀ listed' a' w', left ss.length listed' < left ss.length listed → (∀ (j : Nat) (so : SOper), ss[j]? = some so → j ∉ us → isEff so = true → ¬ Lst listed' j) → InvA us P ng N ss ops E M C R ρ0 w0 d0 listed' a' w' → K listed' a' w') →
      ∀ j ∈ Region.ready .any ops listed, wpOpIn F nf P ops Q j (K (listed.setIfInBounds j true)) a w := by
    intro K listed a w hI hun hnone hK j hj
    obtain ⟨hjs, hjn, hja⟩ := (ready_iff hc listed hI.size j).1 hj
    have hjo : j < ops.size := by rw [← hc.len]; exact hjs
    obtain ⟨so, hso⟩ : ∃ so, ss[j]? = some so := ⟨ss[j], List.getElem?_eq_getElem hjs⟩
    obtain ⟨β, q, ρ, m', hst, hgl, hm', hβ, hinj, henv⟩ := hI.ex
    have hsz := hI.size
    have hl1 : ∀ i, Lst (listed.setIfInBounds j true) i ↔ (i = j ∨ Lst listed i) := by
      intro i
      unfold Lst
      simp only [Array.getD_eq_getD_getElem?]
      by_cases e : i = j
      · subst e
        simp [Array.getElem?_setIfInBounds_self_of_lt (show i < listed.size by omega)]
      · rw [Array.getElem?_setIfInBounds_ne (Ne.symm e)]
        simp [e]
    have hleft : left ss.length (listed.setIfInBounds j true) < left ss.length listed := by
      refine countP_lt _ (fun x hx hq => ?_) j (by simpa using hjs) ?_ ?_
      · by_cases e : x = j
        · subst e
          simp [Array.getD_eq_getD_getElem?, Array.getElem?_setIfInBounds_self_of_lt (show x < listed.size by omega)] at hq
        · simpa [Array.getD_eq_getD_getElem?, Array.getElem?_setIfInBounds_ne (Ne.symm e)] using hq
      · have : listed.getD j true = listed.getD j false := by
          simp [Array.getD_eq_getD_getElem?, Array.getElem?_eq_getElem (show j < listed.size by omega)]
        rw [this]
        simpa [Lst] using hjn
      · simp [Array.getD_eq_getD_getElem?, Array.getElem?_setIfInBounds_self_of_lt (show j < listed.size by omega)]
    have hcl : ∀ i, inC cl i j = true → Lst listed i := fun i hi => clo_mem hc hI.down j i hjo hi hja
    have hMj := hM j so hso
    have hdN : ∀ d, so.dst = some d → d < N := by
      rcases hMj with ⟨_, _, _, h⟩ | h
      · exact h
      · exact h.dst
    -- the environment as the machine has it
    have hdec : ∀ t, Decidable (∃ i si, ss[i]? = some si ∧ si.dst = some t ∧ Lst listed i ∧ i ∉ us) := fun t => Classical.propDecidable _
    have hdec2 : ∀ t, Decidable (∃ i si, ss[i]? = some si ∧ si.dst = some t ∧ Lst listed i ∧ i ∈ us) := fun t => Classical.propDecidable _
    let eS : Nat → Reg := fun t => if h : ∃ i si, ss[i]? = some si ∧ si.dst = some t ∧ Lst listed i ∧ i ∉ us then R h.choose else if h : ∃ i si, ss[i]? = some si ∧ si.dst = some t ∧ Lst listed i ∧ i ∈ us then .one (.ptr (β h.choose) 0) else E 0 t
    have hLe0 : Le ρ0 (C 0) w ρ (C 0 + q) w := ⟨Nat.le_add_right _ _, hst.le.loc, fun _ h => h⟩
    have heS1 : ∀ t, (∀ i si, ss[i]? = some si → si.dst = some t → i ∉ us) → RRel ρ0 (C 0) w (eS t) (a.tmps.getD t undef) := by
      intro t hno
      by_cases h : ∃ i si, ss[i]? = some si ∧ si.dst = some t ∧ Lst listed i ∧ i ∉ us
      · simp only [eS, dif_pos h]
        obtain ⟨si, h1, h2, h3, h4⟩ := h.choose_spec
        exact (henv t).1 _ si h1 h2 h4 h3
      · simp only [eS, dif_neg h]
        have h2 : ¬ ∃ i si, ss[i]? = some si ∧ si.dst = some t ∧ Lst listed i ∧ i ∈ us := by
          rintro ⟨i, si, g1, g2, g3, g4⟩
          exact hno i si g1 g2 g4
        simp only [dif_neg h2]
        exact (henv t).2 (fun i si g1 g2 g3 => h ⟨i, si, g1, g2, g3, hno i si g1 g2⟩)
    have heS : ∀ t, RRel ρ (C 0 + q) w (eS t) (a.tmps.getD t undef) := by
      intro t
      by_cases h : ∃ i si, ss[i]? = some si ∧ si.dst = some t ∧ i ∈ us
      · obtain ⟨i, si, g1, g2, g3⟩ := h
        have hno : ¬ ∃ i si, ss[i]? = some si ∧ si.dst = some t ∧ Lst listed i ∧ i ∉ us := by
          rintro ⟨i', si', k1, k2, _, k4⟩
          have := huniq _ _ _ _ _ k1 g1 k2 g2
          subst this
          exact k4 g3
        by_cases hl : Lst listed i
        · have hh : ∃ i si, ss[i]? = some si ∧ si.dst = some t ∧ Lst listed i ∧ i ∈ us := ⟨i, si, g1, g2, hl, g3⟩
          simp only [eS, dif_neg hno, dif_pos hh]
          obtain ⟨s', k1, k2, k3, k4⟩ := hh.choose_spec
          have e := huniq _ _ _ _ _ k1 g1 k2 g2
          rw [e]
          obtain ⟨so', d, z, hso', ha⟩ := hua i g3
          rw [g1] at hso'
          cases hso'
          have := ((hβ i g3 hl).2.2 si d z g1 ha).2
          have hdd : d = t := by
            rw [(allocOf_inv ha).1] at g2
            exact Option.some.inj g2
          rwa [hdd] at this
        · have hh : ¬ ∃ i si, ss[i]? = some si ∧ si.dst = some t ∧ Lst listed i ∧ i ∈ us := by
            rintro ⟨i', si', k1, k2, k3, _⟩
            have := huniq _ _ _ _ _ k1 g1 k2 g2
            subst this
            exact hl k3
          simp only [eS, dif_neg hno, dif_neg hh]
          refine RRel.mono hLe0 _ _ ((henv t).2 (fun i' si' k1 k2 k3 => ?_))
          have := huniq _ _ _ _ _ k1 g1 k2 g2
          subst this
          exact hl k3
      · exact RRel.mono hLe0 _ _ (heS1 t (fun i si g1 g2 g3 => h ⟨i, si, g1, g2, g3⟩))
    have hG : Good N ng ρ (C 0 + q) w eS m' a := ⟨hst.rel, hgl, heS, hI.tmps⟩
    have hput : ∀ (v : Value) (t : Nat), (a.put so.dst v).tmps.getD t undef = if so.dst = some t then v else a.tmps.getD t undef := by
      intro v t
      cases hd : so.dst with
      | none => simp [Act.put]
      | some d =>
        have hlt : d < a.tmps.size := by rw [hI.tmps]; exact hdN d hd
        by_cases e : d = t
        · subst e
          simp [Act.put, Array.getD_eq_getD_getElem?, hlt]
        · have e' : ¬ (some d = some t) := fun h => e (Option.some.inj h)
          simp [Act.put, Array.getD_eq_getD_getElem?, e, Array.getElem?_setIfInBounds_ne e]
    have hdown : ∀ i o, Lst (listed.setIfInBounds j true) i → ops[i]? = some o → ∀ e ∈ o.after.toList, Region.binds .any e = true → Lst (listed.setIfInBounds j true) e.on := by
      intro i o hl ho e he hb
      rw [hl1] at hl ⊢
      rcases hl with rfl | hl
      · exact Or.inr (hja o ho e he hb)
      · exact Or.inr (hI.down i o hl ho e he hb)
    by_cases hju : j ∈ us
    · -- one of U
      obtain ⟨so', d, z, hso', ha⟩ := hua j hju
      rw [hso] at hso'
      cases hso'
      have hsd : so.dst = some d := by rw [(allocOf_inv ha).1]
      have hMj := hMj.resolve_right (fun h => by have h9 := h.quiet; rw [(allocOf_inv ha).1] at h9; simp [isEff, kindOf] at h9)
      have hev : stepS call eS m' (C 0 + q) so = some (.one (.ptr (C 0 + q) 0), upd m' (C 0 + q) (some ⟨z, true⟩), C 0 + q + 1) := by
        rw [(allocOf_inv ha).1]
        rfl
      refine wpOp_sound hcall hMj hG hev (fun v ρ2 w2 hst2 hv => hK _ _ _ hleft ?_ ⟨by simpa using hsz, hdown, by rw [Act.size_put]; exact hI.tmps, by rw [Act.defers_put]; exact hI.defers,
        fun u => if u = j then C 0 + q else β u, q + 1, ρ2, _, hst.trans hst2, hgl.mono hst2.le, fun id hid => ?_, fun u hu1 hl => ?_, fun u h1 u2 h2 g1 g2 he => ?_, fun t => ⟨fun i si hsi hd hi hl => ?_, fun hno => ?_⟩⟩)
      · intro i si hsi hi he hl
        rw [hl1] at hl
        rcases hl with rfl | hl
        · exact hi hju
        · exact hnone i si hsi hi he hl
      · rw [upd_ne _ _ (by omega)]
        exact hm' id hid
      · rw [hl1] at hl
        by_cases e : u = j
        · subst e
          simp only [if_true]
          refine ⟨by omega, by omega, fun so2 d2 z2 k1 k2 => ?_⟩
          rw [hso] at k1
          cases k1
          rw [ha] at k2
          cases k2
          refine ⟨upd_same _ _ _, ?_⟩
          rw [hput, if_pos hsd]
          exact hv
        · have hlu := hl.resolve_left e
          obtain ⟨k1, k2, k3⟩ := hβ u hu1 hlu
          simp only [if_neg e]
          refine ⟨k1, by omega, fun so2 d2 z2 k4 k5 => ?_⟩
          obtain ⟨k6, k7⟩ := k3 so2 d2 z2 k4 k5
          refine ⟨by rw [upd_ne _ _ (by omega)]; exact k6, ?_⟩
          rw [hput, if_neg (fun hd => e (huniq u so2 j so d2 k4 hso (by rw [(allocOf_inv k5).1]) hd))]
          exact RRel.mono hst2.le _ _ k7
      · rw [hl1] at g1 g2
        simp only at he
        by_cases e1 : u = j
        · by_cases e2 : u2 = j
          · rw [e1, e2]
          · rw [if_pos e1, if_neg e2] at he
            have := (hβ u2 h2 (g2.resolve_left e2)).2.1
            omega
        · by_cases e2 : u2 = j
          · rw [if_neg e1, if_pos e2] at he
            have := (hβ u h1 (g1.resolve_left e1)).2.1
            omega
          · rw [if_neg e1, if_neg e2] at he
            exact hinj u h1 u2 h2 (g1.resolve_left e1) (g2.resolve_left e2) he
      · rw [hl1] at hl
        have hne : i ≠ j := fun e => hi (e ▸ hju)
        rw [hput, if_neg (fun hd2 => hne (huniq i si j so t hsi hso hd hd2))]
        exact RRel.mono ⟨Nat.le_refl _, fun _ _ => rfl, hst2.le.live⟩ _ _ ((henv t).1 i si hsi hd hi (hl.resolve_left hne))
      · have hdj : so.dst ≠ some t := fun hd => hno j so hso hd ((hl1 j).2 (Or.inl rfl))
        rw [hput, if_neg hdj]
        exact RRel.mono ⟨Nat.le_refl _, fun _ _ => rfl, hst2.le.live⟩ _ _ ((henv t).2 (fun i si hsi hd hl => hno i si hsi hd ((hl1 i).2 (Or.inr hl))))
    · -- it only looks
      have hjob := u_job hu hso
      have hcon : us.contains j = false := by
        cases h : us.contains j with
        | false => rfl
        | true => exact absurd (List.contains_iff_mem.1 h) hju
      have hnl : us.all (fun u => inC cl u j) = false := by
        cases h : us.all (fun u => inC cl u j) with
        | false => rfl
        | true =>
          obtain ⟨u, h1, h2⟩ := hun
          exact absurd (hcl u (List.all_eq_true.1 h u h1)) h2
      simp only [jOk, hcon, hnl, Bool.false_or, Bool.and_eq_true, Bool.not_eq_true', List.all_eq_true, List.mem_range, Bool.or_eq_true] at hjob
      obtain ⟨⟨⟨hne, hnu0⟩, hes0⟩, hbf0⟩ := hjob
      have hnu : ∀ (i : Nat) (si : SOper) (t : Nat), ss[i]? = some si → si.dst = some t → t ∈ usesS so → i ∉ us := by
        intro i si t hsi hd ht hi
        have := hnu0 i hi
        rw [hsi] at this
        simp only [hd, Bool.not_eq_true'] at this
        rw [List.contains_iff_mem.2 ht] at this
        cases this
      have hes : ∀ d, so.dst = some d → d ∈ es := by
        intro d hd
        rw [hd] at hes0
        exact List.contains_iff_mem.1 hes0
      have hbf : ∀ (i : Nat) (si : SOper), i < j → ss[i]? = some si → i ∈ us ∨ isEff si = false := by
        intro i si hi hsi
        rcases hbf0 i hi with h | h
        · exact Or.inl (List.contains_iff_mem.1 h)
        · rw [hsi] at h
          right
          simpa using h
      have hcl2 : ∀ i, i < ops.size → inC cl j i = true → ¬ Lst listed i := by
        intro i hi hij hl
        obtain ⟨o, ho⟩ : ∃ o, ops[i]? = some o := ⟨ops[i], Array.getElem?_eq_getElem hi⟩
        exact hjn (clo_mem hc hI.down i j hi hij (fun o' ho' => hI.down i o' hl ho'))
      have hag : ∀ t ∈ usesS so, eS t = E j t := by
        intro t ht
        obtain ⟨q1, q2⟩ := hE j (by omega) t
        by_cases hex : ∃ (i : Nat) (si : SOper), ss[i]? = some si ∧ si.dst = some t
        · obtain ⟨i, si, hsi, hd⟩ := hex
          have hi : i < ss.length := (List.getElem?_eq_some_iff.1 hsi).1
          have hiu := hnu i si t hsi hd ht
          have hno2 : ¬ ∃ i si, ss[i]? = some si ∧ si.dst = some t ∧ Lst listed i ∧ i ∈ us := by
            rintro ⟨i', si', k1, k2, _, k4⟩
            have := huniq _ _ _ _ _ k1 hsi k2 hd
            subst this
            exact hiu k4
          rcases Nat.lt_trichotomy i j with h | h | h
          · have hp' := hc.pair i j si so h hsi hso
            simp only [pairOk, hd, Bool.and_eq_true, Bool.or_eq_true, Bool.not_eq_true'] at hp'
            have hin : inC cl i j = true := by
              rcases hp'.1.1.1.1.1.2 with h1 | h1
              · rw [List.contains_iff_mem.2 ht] at h1; cases h1
              · exact h1
            have hl := hcl i hin
            have hh : ∃ i si, ss[i]? = some si ∧ si.dst = some t ∧ Lst listed i ∧ i ∉ us := ⟨i, si, hsi, hd, hl, hiu⟩
            obtain ⟨s', h1, h2, h3, h4⟩ := hh.choose_spec
            have := huniq _ _ _ _ _ h1 hsi h2 hd
            simp only [eS, dif_pos hh, this]
            exact (q1 i si h hsi hd).symm
          · subst h
            have hno : ¬ ∃ i' si', ss[i']? = some si' ∧ si'.dst = some t ∧ Lst listed i' ∧ i' ∉ us := by
              rintro ⟨i', si', h1, h2, h3, _⟩
              have := huniq _ _ _ _ _ h1 hsi h2 hd
              subst this
              exact hjn h3
            simp only [eS, dif_neg hno, dif_neg hno2]
            exact (q2 (fun i' si' h1 h2 h3 => by have := huniq _ _ _ _ _ h2 hsi h3 hd; omega)).symm
          · have hp' := hc.pair j i so si h hso hsi
            simp only [pairOk, hd, Bool.and_eq_true, Bool.or_eq_true, Bool.not_eq_true'] at hp'
            have hin : inC cl j i = true := by
              rcases hp'.1.1.1.1.2 with h1 | h1
              · rw [List.contains_iff_mem.2 ht] at h1; cases h1
              · exact h1
            have hnl2 := hcl2 i (by rw [← hc.len]; exact hi) hin
            have hno : ¬ ∃ i' si', ss[i']? = some si' ∧ si'.dst = some t ∧ Lst listed i' ∧ i' ∉ us := by
              rintro ⟨i', si', h1, h2, h3, _⟩
              have := huniq _ _ _ _ _ h1 hsi h2 hd
              subst this
              exact hnl2 h3
            simp only [eS, dif_neg hno, dif_neg hno2]
            exact (q2 (fun i' si' h1 h2 h3 => by have := huniq _ _ _ _ _ h2 hsi h3 hd; omega)).symm
        · have hno : ¬ ∃ i' si', ss[i']? = some si' ∧ si'.dst = some t ∧ Lst listed i' ∧ i' ∉ us := by
            rintro ⟨i', si', h1, h2, h3⟩
            exact hex ⟨i', si', h1, h2⟩
          have hno2 : ¬ ∃ i' si', ss[i']? = some si' ∧ si'.dst = some t ∧ Lst listed i' ∧ i' ∈ us := by
            rintro ⟨i', si', h1, h2, h3⟩
            exact hex ⟨i', si', h1, h2⟩
          simp only [eS, dif_neg hno, dif_neg hno2]
          exact (q2 (fun i' si' h1 h2 h3 => hex ⟨i', si', h2, h3⟩)).symm
      have hwant : wantedS eS so = wantedS (E j) so := by
        unfold wantedS
        cases hg : so.guard with
        | none => rfl
        | some g =>
          obtain ⟨gt, want⟩ := g
          cases gt with
          | none => rfl
          | some t =>
            simp only
            rw [hag t (by simp [usesS, hg])]
      have hcong : ∀ m n, stepS call eS m n so = stepS call (E j) m n so := by
        intro m n
        unfold stepS
        rw [hwant, evalOp_congr (fun t ht => hag t (by simp [usesS, ht]))]
      have htj := (htr j so hso).1
      obtain ⟨b1, b2, _, _, _⟩ := before htr hua hm0.lt j (by omega) hbf
      have hev : stepS call eS m' (C 0 + q) so = some (R j, m', C 0 + q) := by
        rw [hcong]
        unfold stepS at htj ⊢
        split at htj
        · rename_i hw
          cases hk : kindOf so.op with
          | p => exact (kind_p hk htj).2.2 _ _
          | mild => simp [isEff, hk] at hne
          | hard => simp [isEff, hk] at hne
          | l =>
            obtain ⟨h1, h2, id, b, h3, h4, h5⟩ := kind_l hk htj
            refine h5 _ _ ?_
            have hid : id < C 0 := by
              obtain ⟨k, off, h6, h7⟩ := lookT_inv ((hc.look j so hso).1 hk) h3
              have hku : k ∈ usesS so := by simp [usesS, h6]
              have h8 := heS1 k (fun i si g1 g2 => hnu i si k g1 g2 hku)
              rw [hag k hku, h7] at h8
              exact (ptr_inv h8).1
            rw [hm' id hid, b2 id hid]
        · rename_i hw
          simp only [Option.some.injEq, Prod.mk.injEq] at htj
          rw [htj.1]
      have cont : ∀ (v : Value) (ρ2 : Loc) (w2 : World), Step ρ (C 0 + q) w m' ρ2 (C 0 + q) w2 m' → RRel ρ2 (C 0 + q) w2 (R j) v → K (listed.setIfInBounds j true) (a.put so.dst v) w2 := by
        intro v ρ2 w2 hst2 hv
        refine hK _ _ _ hleft ?_ ⟨by simpa using hsz, hdown, by rw [Act.size_put]; exact hI.tmps, by rw [Act.defers_put]; exact hI.defers,
          β, q, ρ2, m', hst.trans hst2, hgl.mono hst2.le, hm', fun u hu1 hl => ?_, fun u h1 u2 h2 g1 g2 he => ?_, fun t => ⟨fun i si hsi hd hi hl => ?_, fun hno => ?_⟩⟩
        · intro i si hsi hi he hl
          rw [hl1] at hl
          rcases hl with rfl | hl
          · rw [hso] at hsi
            cases hsi
            rw [hne] at he
            cases he
          · exact hnone i si hsi hi he hl
        · rw [hl1] at hl
          have e : u ≠ j := fun e => hju (e ▸ hu1)
          obtain ⟨k1, k2, k3⟩ := hβ u hu1 (hl.resolve_left e)
          refine ⟨k1, k2, fun so2 d2 z2 k4 k5 => ?_⟩
          obtain ⟨k6, k7⟩ := k3 so2 d2 z2 k4 k5
          refine ⟨k6, ?_⟩
          rw [hput, if_neg (fun hd => e (huniq u so2 j so d2 k4 hso (by rw [(allocOf_inv k5).1]) hd))]
          exact RRel.mono hst2.le _ _ k7
        · rw [hl1] at g1 g2
          exact hinj u h1 u2 h2 (g1.resolve_left (fun e => hju (e ▸ h1))) (g2.resolve_left (fun e => hju (e ▸ h2))) he
        · rw [hl1] at hl
          by_cases e : i = j
          · subst e
            rw [hso] at hsi
            cases hsi
            rw [hput, if_pos hd]
            have hs : safeR (M 0) (R i) = true := by
              have h1 := List.all_eq_true.1 hsafe t (hes t hd)
              rwa [((hE ss.length (Nat.le_refl _) t).1 i so hjs hso hd)] at h1
            exact safe_rel (fun id hid => (hst.trans hst2).le.loc id hid) hm0.lt hs hv
          · rw [hput, if_neg (fun hd2 => e (huniq i si j so t hsi hso hd hd2))]
            exact RRel.mono ⟨Nat.le_refl _, fun _ _ => rfl, hst2.le.live⟩ _ _ ((henv t).1 i si hsi hd hi (hl.resolve_left e))
        · have hdj : so.dst ≠ some t := fun hd => hno j so hso hd ((hl1 j).2 (Or.inl rfl))
          rw [hput, if_neg hdj]
          exact RRel.mono ⟨Nat.le_refl _, fun _ _ => rfl, hst2.le.live⟩ _ _ ((henv t).2 (fun i si hsi hd hl => hno i si hsi hd ((hl1 i).2 (Or.inr hl))))
      rcases hMj with hMj | hpre
      · exact wpOp_sound hcall hMj hG hev cont
      · have hJ : MRel ρ (C 0) w (frz (M 0)) := by
          have hfz : ∀ id b, frz (M 0) id = some b → ∃ b0, M 0 id = some b0 ∧ b = ⟨b0.cells, false⟩ := fun id b hb => by
            unfold frz at hb
            obtain ⟨b0, h1, h2⟩ := Option.map_eq_some_iff.1 hb
            exact ⟨b0, h1, h2.symm⟩
          refine ⟨fun id b hb => ?_, fun id b hb => ?_, fun id b hb i c hci => ?_, fun id b hb ho => ?_, fun id b hb ho => ?_⟩
          · obtain ⟨b0, h1, _⟩ := hfz id b hb
            exact hm0.lt id b0 h1
          · obtain ⟨b0, h1, _⟩ := hfz id b hb
            exact hst.rel.blk id b0 (by rw [hm' id (hm0.lt id b0 h1)]; exact h1)
          · obtain ⟨b0, h1, rfl⟩ := hfz id b hb
            obtain ⟨v0, _, h3⟩ := hm0.cells id b0 h1 i c hci
            obtain ⟨v, h4, h5⟩ := hst.rel.cells id b0 (by rw [hm' id (hm0.lt id b0 h1)]; exact h1) i c hci
            exact ⟨v, h4, CRel.shrink c v0 v h3 h5⟩
          · obtain ⟨b0, h1, rfl⟩ := hfz id b hb
            cases ho
          · obtain ⟨b0, h1, rfl⟩ := hfz id b hb
            cases ho
        exact hpre.runs ρ (C 0 + q) w m' a _ hst.rel hgl hJ hst.le hI.tmps (fun t hno => RRel.mono hLe0 _ _ ((henv t).2 (fun i si h1 h2 _ => absurd h2 (hno i si h1)))) (fun t ht => by rw [← hag t ht]; exact heS t) cont
  -- something is ready
  have hsome : ∀ (listed : Array Bool), listed.size = ss.length → (∃ u ∈ us, ¬ Lst listed u) → Region.ready .any ops listed ≠ [] := by
    intro listed hs hun hr
    have hall : ∀ j, j < ss.length → Lst listed j := by
      intro j
      induction j using Nat.strongRecOn with
      | _ j ih =>
        intro hj
        refine Classical.byContradiction fun hn => ?_
        have : j ∈ Region.ready .any ops listed := (ready_iff hc listed hs j).2 ⟨hj, hn, fun o ho e he hb => by
          have := (hc.clo j o ho).1 e he hb
          exact ih e.on this (by omega)⟩
        rw [hr] at this
        cases this
    obtain ⟨u, h1, h2⟩ := hun
    obtain ⟨so, d, z, hso, _⟩ := hua u h1
    exact h2 (hall u (List.getElem?_eq_some_iff.1 hso).1)
  intro fuel
  induction fuel with
  | zero =>
    intro listed a w hl hun hnone hI
    obtain ⟨u, h1, h2⟩ := hun
    obtain ⟨so, d, z, hso, _⟩ := hua u h1
    have hul : u < ss.length := (List.getElem?_eq_some_iff.1 hso).1
    have h0 : left ss.length listed = 0 := by omega
    unfold left at h0
    rw [List.countP_eq_zero] at h0
    have h3 := h0 u (by simpa using hul)
    have hsz := hI.size
    have h4 : listed.getD u true = listed.getD u false := by
      simp [Array.getD_eq_getD_getElem?, Array.getElem?_eq_getElem (show u < listed.size by omega)]
    rw [h4] at h3
    exact absurd (by simpa [Lst] using h3) h2
  | succ fuel ih =>
    intro listed a w hl hun hnone hI
    refine ⟨fun hr => absurd hr (hsome listed hI.size hun), fun i hi => ?_⟩
    refine hstep (fun l' a' w' => wpAnyIn F nf P .any ops Q fuel l' a' w') listed a w hI hun hnone (fun listed' a' w' h1 h2 h3 => ?_) i hi
    by_cases hall : ∃ u ∈ us, ¬ Lst listed' u
    · exact ih listed' a' w' (by omega) hall h2 h3
    · exact wpAny_ok hcall hc hm0 hM htr hdis hQ fuel listed' a' w' (by omega) (switch hc htr hu hm0 hg0 h3 (fun u hm => Classical.byContradiction fun hn => hall ⟨u, hm, hn⟩) h2)
end
end Go.Proofs.Ytkdbnmohpanpfaa.Sy
