/- An evaluator of a part of Go's operations over a memory of its own, part five: structs and arrays compared, composed. Conditions: those that each theorem names. -/
import Derived.Test.YtkdbnmohpanpfaaSyD
namespace Go.Proofs.Ytkdbnmohpanpfaa.Sy
open Go
set_option linter.unusedVariables false
set_option linter.unusedSimpArgs false

def eqVs : List Sk → List Value → List Value → Option Bool
  | [], [], [] => some true
  | .i :: ks, .int k a :: xs, .int k' b :: ys => if k = k' then (eqVs ks xs ys).map ((a == b) && ·) else none
  | .b :: ks, .bool a :: xs, .bool b :: ys => (eqVs ks xs ys).map ((a == b) && ·)
  | _, _, _ => none

section
variable {ρ : Loc} {n : Nat} {w : World}
theorem eqVs_of : ∀ (ks : List Sk) (cs cs' : List Cell) (vs vs' : List Value) (b : Bool), CRels ρ n w cs vs → CRels ρ n w cs' vs' → eqCells ks cs cs' = some b → eqVs ks vs vs' = some b := by
  intro ks cs cs'
  induction ks, cs, cs' using eqCells.induct with
  | case1 =>
    intro vs vs' b h h' he
    simp only [CRels] at h h'
    subst h; subst h'
    simpa only [eqCells, eqVs] using he
  | case2 ks a xs k b ys ih =>
    intro vs vs' t h h' he
    simp only [CRels, CRel] at h h'
    obtain ⟨_, r, rfl, ⟨rfl, _⟩, h3⟩ := h
    obtain ⟨_, r', rfl, ⟨rfl, _⟩, h3'⟩ := h'
    simp only [eqCells, if_true, Option.map_eq_some_iff] at he
    obtain ⟨b', h4, h5⟩ := he
    simp only [eqVs, if_true, ih r r' b' h3 h3' h4, Option.map_some, h5]
  | case3 ks k a xs k' b ys hne =>
    intro vs vs' t h h' he
    simp only [eqCells, if_neg hne] at he
    cases he
  | case4 ks a xs b ys ih =>
    intro vs vs' t h h' he
    simp only [CRels, CRel] at h h'
    obtain ⟨_, r, rfl, ⟨rfl, _⟩, h3⟩ := h
    obtain ⟨_, r', rfl, ⟨rfl, _⟩, h3'⟩ := h'
    simp only [eqCells, Option.map_eq_some_iff] at he
    obtain ⟨b', h4, h5⟩ := he
    simp only [eqVs, ih r r' b' h3 h3' h4, Option.map_some, h5]
  | case5 ks xs ys h1 h2 h3 =>
    intro vs vs' t h h' he
    rw [eqCells.eq_4 _ _ _ h1 h2 h3] at he
    cases he
end

theorem eqVs_length : ∀ (ks : List Sk) (vs vs' : List Value) (b : Bool), eqVs ks vs vs' = some b → vs.length = ks.length ∧ vs'.length = ks.length := by
  intro ks vs vs'
  induction ks, vs, vs' using eqVs.induct with
  | case1 => intro b _; exact ⟨rfl, rfl⟩
  | case2 ks a xs k b ys ih =>
    intro t he
    simp only [eqVs, if_true, Option.map_eq_some_iff] at he
    obtain ⟨b', h4, _⟩ := he
    have := ih b' h4
    simp [this]
  | case3 ks k a xs k' b ys hne => intro t he; simp only [eqVs, if_neg hne] at he; cases he
  | case4 ks a xs b ys ih =>
    intro t he
    simp only [eqVs, Option.map_eq_some_iff] at he
    obtain ⟨b', h4, _⟩ := he
    have := ih b' h4
    simp [this]
  | case5 ks xs ys h1 h2 h3 => intro t he; rw [eqVs.eq_4 _ _ _ h1 h2 h3] at he; cases he

theorem eqVs_append : ∀ (ks : List Sk) (vs vs' : List Value) (ls : List Sk) (b : Bool), eqVs (ks ++ ls) vs vs' = some b →
    ∃ b1 b2, eqVs ks (vs.take ks.length) (vs'.take ks.length) = some b1 ∧ eqVs ls (vs.drop ks.length) (vs'.drop ks.length) = some b2 ∧ b = (b1 && b2)
  | [], vs, vs', ls, b, h => ⟨true, b, by simp [eqVs], by simpa using h, by simp⟩
  | k :: ks, vs, vs', ls, b, h => by
    cases k with
    | i =>
      rcases vs with _ | ⟨v, vs⟩
      · simp [eqVs] at h
      rcases vs' with _ | ⟨v', vs'⟩
      · cases v <;> simp [eqVs] at h
      cases v <;> cases v' <;> simp only [List.cons_append, eqVs] at h <;> first | (cases h; done) | skip
      split at h
      case isFalse => cases h
      rename_i hk
      simp only [Option.map_eq_some_iff] at h
      obtain ⟨b', h1, h2⟩ := h
      obtain ⟨b1, b2, h3, h4, h5⟩ := eqVs_append ks vs vs' ls b' h1
      rename_i x _ y
      exact ⟨(x == y) && b1, b2, by simp [eqVs, hk, h3], by simpa using h4, by rw [← h2, h5, Bool.and_assoc]⟩
    | b =>
      rcases vs with _ | ⟨v, vs⟩
      · simp [eqVs] at h
      rcases vs' with _ | ⟨v', vs'⟩
      · cases v <;> simp [eqVs] at h
      cases v <;> cases v' <;> simp only [List.cons_append, eqVs] at h <;> first | (cases h; done) | skip
      simp only [Option.map_eq_some_iff] at h
      obtain ⟨b', h1, h2⟩ := h
      obtain ⟨b1, b2, h3, h4, h5⟩ := eqVs_append ks vs vs' ls b' h1
      rename_i x y
      exact ⟨(x == y) && b1, b2, by simp [eqVs, h3], by simpa using h4, by rw [← h2, h5, Bool.and_assoc]⟩

def eqEls (d : Nat) (e sz : Nat) (xs ys : Array Value) : List Nat → Sem Bool
  | [] => pure true
  | i :: is => do
    let a ← part e xs (i * sz)
    let b ← part e ys (i * sz)
    let r ← Op.equalIn d e a b
    if (!r) = true then pure false else eqEls d e sz xs ys is

section
variable {P : Program}
theorem run_equalIn_arr (w : World) (d : Nat) (t e n sz : Nat) (xs ys : Array Value) (ht : P.underlying t = some (.array n e)) (hs : ∀ W : World, (sizeOf e).run P W = .ok sz W) :
    (Op.equalIn (d + 1) t (.agg xs) (.agg ys)).run P w = (eqEls d e sz xs ys (List.range' 0 n)).run P w := by
  simp only [Op.equalIn, Sem.run_bind, run_underlying ht, Result.andThen_ok, hs]
  rw [Std.Legacy.Range.forIn_eq_forIn_range']
  have hz : (⟨0, n, 1, by decide⟩ : Std.Legacy.Range).size = n := by simp [Std.Legacy.Range.size]
  rw [hz]
  simp only []
  generalize List.range' 0 n 1 = is
  clear ht
  induction is generalizing w with
  | nil => simp [eqEls]
  | cons i is ih =>
    simp only [List.forIn_cons, eqEls, Sem.run_bind]
    generalize (part e xs (i * sz)).run P w = r1
    cases r1 with
    | ok a w1 =>
      simp only [Result.andThen_ok]
      generalize (part e ys (i * sz)).run P w1 = r2
      cases r2 with
      | ok b w2 =>
        simp only [Result.andThen_ok]
        generalize (Op.equalIn d e a b).run P w2 = r3
        cases r3 with
        | ok r w3 =>
          cases r
          · simp only [Result.andThen_ok, Bool.not_false, if_true, Sem.run_pure, Sem.run_ite]
          · simp only [Result.andThen_ok, Bool.not_true, Bool.false_eq_true, if_false, Sem.run_pure, Sem.run_ite]
            exact ih w3
        | halt x w3 => simp [Result.andThen]
      | halt x w2 => simp [Result.andThen]
    | halt x w1 => simp [Result.andThen]

/-- What a part of a row is, as a value. -/
def asV (ag : Bool) (vs : List Value) : Value := if ag then .agg vs.toArray else vs.headD undef

theorem run_part {t : TypeId} {s : Nat} {ag : Bool} {vs : List Value} {off : Nat} (hs : tsz P t = some s) (hag : tagg P t = some ag) (hle : off + s ≤ vs.length) (h1 : ag = false → s = 1) (w : World) :
    (part t vs.toArray off).run P w = .ok (asV ag ((vs.drop off).take s)) w := by
  cases ag
  · have := h1 rfl
    subst this
    have h2 : off < vs.length := by omega
    simp only [part, Sem.run_bind, run_isAgg_tagg hag, Result.andThen_ok, Bool.false_eq_true, if_false, asV]
    have : vs.toArray[off]? = some vs[off] := by simp [h2]
    rw [this]
    have h3 : vs.drop off = vs[off] :: vs.drop (off + 1) := List.drop_eq_getElem_cons h2
    rw [h3, List.take_succ_cons, List.take_zero, List.headD_cons]
    rfl
  · simp [part, run_isAgg_tagg hag, run_sizeOf_tsz hs, asV, List.extract_eq_take_drop]

theorem flatK_tagg {d : Nat} {t : TypeId} {ks : List Sk} (h : flatK P d t = some ks) : ∃ ag, tagg P t = some ag ∧ (ag = false → ks.length = 1) := by
  cases d with
  | zero => simp [flatK] at h
  | succ d =>
    simp only [flatK] at h
    split at h
    · rename_i k hu; cases h; exact ⟨false, by simp [tagg, hu], fun _ => rfl⟩
    · rename_i hu; cases h; exact ⟨false, by simp [tagg, hu], fun _ => rfl⟩
    · rename_i l e hu; exact ⟨true, by simp [tagg, hu], fun h => by cases h⟩
    · rename_i fs hu; exact ⟨true, by simp [tagg, hu], fun h => by cases h⟩
    · cases h

theorem eq_flat : ∀ (d : Nat),
    (∀ (t : TypeId) (ks : List Sk), flatK P d t = some ks → ∀ (D : Nat), d ≤ D → ∀ (ag : Bool), tagg P t = some ag → ∀ (vs vs' : List Value) (b : Bool) (w : World), eqVs ks vs vs' = some b → (Op.equalIn D t (asV ag vs) (asV ag vs')).run P w = .ok b w) ∧
    (∀ (fs : List Field) (o : Nat) (ks : List Sk), flatKs P d fs o = some ks → ∀ (D : Nat), d ≤ D → ∀ (vs vs' : List Value) (b : Bool) (w : World), o + ks.length = vs.length → o + ks.length = vs'.length → eqVs ks (vs.drop o) (vs'.drop o) = some b → (Op.eqFields D vs.toArray vs'.toArray fs).run P w = .ok b w) := by
  intro d
  induction d with
  | zero =>
    exact ⟨fun t ks h => by simp [flatK] at h, fun fs o ks h => by simp [flatKs] at h⟩
  | succ d ih =>
    obtain ⟨ihA, ihB⟩ := ih
    constructor
    · intro t ks h D hD ag hag vs vs' b w he
      obtain ⟨D, rfl⟩ : ∃ k, D = k + 1 := ⟨D - 1, by omega⟩
      simp only [flatK] at h
      split at h
      · rename_i k hu
        cases h
        simp only [tagg, hu, Option.some.injEq] at hag
        subst hag
        rcases vs with _ | ⟨v, vs⟩
        · simp [eqVs] at he
        rcases vs' with _ | ⟨v', vs'⟩
        · cases v <;> simp [eqVs] at he
        cases v <;> cases v' <;> simp only [eqVs] at he <;> first | (cases he; done) | skip
        split at he
        case isFalse => cases he
        rename_i hk
        subst hk
        rcases vs with _ | ⟨v, vs⟩ <;> rcases vs' with _ | ⟨v', vs'⟩ <;> simp [eqVs] at he
        subst he
        simpa [asV] using run_equalIn_int (P := P) w D t _ k _ _ hu
      · rename_i hu
        cases h
        simp only [tagg, hu, Option.some.injEq] at hag
        subst hag
        rcases vs with _ | ⟨v, vs⟩
        · simp [eqVs] at he
        rcases vs' with _ | ⟨v', vs'⟩
        · cases v <;> simp [eqVs] at he
        cases v <;> cases v' <;> simp only [eqVs] at he <;> first | (cases he; done) | skip
        rcases vs with _ | ⟨v, vs⟩ <;> rcases vs' with _ | ⟨v', vs'⟩ <;> simp [eqVs] at he
        subst he
        simpa [asV] using run_equalIn_bool (P := P) w D t _ _ hu
      · rename_i l e hu
        simp only [tagg, hu, Option.some.injEq] at hag
        subst hag
        split at h
        case h_2 => cases h
        rename_i ks' s hks hs
        split at h
        case isFalse => cases h
        rename_i hlen
        cases h
        obtain ⟨ag', hag', hone⟩ := flatK_tagg hks
        simp only [asV, if_true]
        rw [run_equalIn_arr w D t e l s vs.toArray vs'.toArray hu (fun W => run_sizeOf_tsz hs W)]
        have hlv := eqVs_length _ _ _ _ he
        have key : ∀ (k i : Nat) (b : Bool), i + k = l → eqVs (List.replicate k ks').flatten (vs.drop (i * s)) (vs'.drop (i * s)) = some b → (eqEls D e s vs.toArray vs'.toArray (List.range' i k)).run P w = .ok b w := by
          intro k
          induction k with
          | zero =>
            intro i b hi hb
            have h1 := eqVs_length _ _ _ _ hb
            simp only [List.replicate_zero, List.flatten_nil, List.length_nil] at h1 hb
            rw [List.length_eq_zero_iff.1 h1.1, List.length_eq_zero_iff.1 h1.2] at hb
            simp [eqVs] at hb
            subst hb
            simp [eqEls]
          | succ k ihk =>
            intro i b hi hb
            simp only [List.replicate_succ, List.flatten_cons] at hb
            obtain ⟨b1, b2, h1, h2, h3⟩ := eqVs_append _ _ _ _ _ hb
            rw [hlen] at h1 h2
            rw [List.drop_drop, List.drop_drop, show i * s + s = (i + 1) * s by rw [Nat.add_mul, Nat.one_mul]] at h2
            have h4 := ihk (i + 1) b2 (by omega) h2
            have hl1 := (eqVs_length _ _ _ _ h1)
            rw [hlen] at hl1
            simp only [List.length_take, List.length_drop] at hl1
            have hz : ag' = false → s = 1 := fun h => by rw [← hlen]; exact hone h
            rcases Nat.eq_zero_or_pos s with hs0 | hs0
            · have p1 := run_part (vs := vs) (off := i * s) hs hag' (by subst hs0; simp) hz w
              have p2 := run_part (vs := vs') (off := i * s) hs hag' (by subst hs0; simp) hz w
              have p3 := ihA e ks' hks D (by omega) ag' hag' _ _ b1 w h1
              simp only [List.range'_succ, eqEls, Sem.run_bind, p1, p2, p3, Result.andThen_ok]
              cases b1
              · simp [h3]
              · simpa [h3] using h4
            · have p1 := run_part (vs := vs) (off := i * s) hs hag' (by omega) hz w
              have p2 := run_part (vs := vs') (off := i * s) hs hag' (by omega) hz w
              have p3 := ihA e ks' hks D (by omega) ag' hag' _ _ b1 w h1
              simp only [List.range'_succ, eqEls, Sem.run_bind, p1, p2, p3, Result.andThen_ok]
              cases b1
              · simp [h3]
              · simpa [h3] using h4
        exact key l 0 b (by omega) (by simpa using he)
      · rename_i fs hu
        simp only [tagg, hu, Option.some.injEq] at hag
        subst hag
        split at h
        case isTrue => cases h
        rename_i hst
        simp only [asV, if_true]
        have hfo : P.fieldsOf t = fs := by simp [Program.fieldsOf, hu]
        rw [run_equalIn_struct w D t vs.toArray vs'.toArray (by rw [hfo]; exact hu) (by simpa using hst), hfo]
        have hlv := eqVs_length _ _ _ _ he
        exact ihB fs.toList 0 ks h D (by omega) vs vs' b w (by omega) (by omega) (by simpa using he)
      · cases h
    · intro fs o ks h D hD vs vs' b w hl hl' he
      cases fs with
      | nil =>
        simp only [flatKs, Option.some.injEq] at h
        subst h
        have h1 := eqVs_length _ _ _ _ he
        simp only [List.length_nil] at h1
        rw [List.length_eq_zero_iff.1 h1.1, List.length_eq_zero_iff.1 h1.2] at he
        simp [eqVs] at he
        subst he
        simp [Op.eqFields]
      | cons f fs =>
        simp only [flatKs] at h
        split at h
        case isTrue => cases h
        rename_i hnm
        split at h
        case h_2 => cases h
        rename_i ks' s hks hs
        split at h
        case isFalse => cases h
        rename_i hlen
        obtain ⟨ls, hls, rfl⟩ := Option.map_eq_some_iff.1 h
        obtain ⟨b1, b2, h1, h2, h3⟩ := eqVs_append _ _ _ _ _ he
        rw [hlen] at h1 h2
        rw [List.drop_drop, List.drop_drop] at h2
        obtain ⟨ag', hag', hone⟩ := flatK_tagg hks
        have hz : ag' = false → s = 1 := fun h => by rw [← hlen]; exact hone h
        simp only [List.length_append] at hl hl'
        have hn1 : f.name ≠ "_" := fun e => hnm (Or.inl e)
        have hn2 : f.offset = o := Classical.byContradiction fun e => hnm (Or.inr e)
        have p1 := run_part (vs := vs) (off := o) hs hag' (by omega) hz w
        have p2 := run_part (vs := vs') (off := o) hs hag' (by omega) hz w
        have p3 := ihA f.type ks' hks D (by omega) ag' hag' _ _ b1 w h1
        have p4 := ihB fs (o + s) ls hls D (by omega) vs vs' b2 w (by omega) (by omega) h2
        simp only [Op.eqFields, if_pos hn1, Sem.run_bind, hn2, p1, p2, p3, Result.andThen_ok]
        cases b1
        · simp [h3]
        · simpa [h3] using p4
end

section
variable {P : Program} {o : Oper} {a : Act} {ρ : Loc} {n : Nat} {w : World} {m : Mem} {ng : Nat} {env : Nat → Reg}

theorem d_eqv {op : BinOp} {t t2 : TypeId} {x y : Operand} {x' y' : O} {cs cs' : List Cell} {ks : List Sk} {b : Bool} (ho : o.op = .binOp op t x y t2) (hm : MRel ρ n w m) (hg : Glob ng ρ n) (he : ERel ρ n w env a) (hx : slimO ng x = some x') (hy : slimO ng y = some y')
    (hop : op = .eql ∨ op = .neq) (hag : tagg P t = some true) (hk : flatK P 100 t = some ks) (hgd : P.eqGuardType P.depth t = false) (hu : evO env x' = .agg cs) (hv : evO env y' = .agg cs') (h : eqCells ks cs cs' = some b) :
    Does P o a ρ n w m (.one (.sc (.bool (b != (op == .neq))))) m n := by
  have h1 := evO_rel hx hg he
  have h2 := evO_rel hy hg he
  rw [hu] at h1
  rw [hv] at h2
  obtain ⟨vs, h3, h4⟩ := agg_inv h1
  obtain ⟨vs', h5, h6⟩ := agg_inv h2
  have h7 := eqVs_of _ _ _ _ _ _ h4 h6 h
  have h8 := (eq_flat (P := P) 100).1 t ks hk 10000 (by decide) true hag vs vs' b w h7
  simp only [asV, if_true] at h8
  refine does_same (v := .bool (b != (op == .neq))) ?_ hm (by simp [RRel, CRel, Value.oneCell'])
  rcases hop with rfl | rfl
  · simp only [execOp, ho, h3, h5, Sem.run_bind, run_eqGuard_agg w _ t x y _ _ hgd, Result.andThen_ok, run_eql_struct, h8]
    cases b <;> simp
  · simp only [execOp, ho, h3, h5, Sem.run_bind, run_eqGuard_agg w _ t x y _ _ hgd, Result.andThen_ok, run_neq_struct, h8]
    cases b <;> simp
end
end Go.Proofs.Ytkdbnmohpanpfaa.Sy
