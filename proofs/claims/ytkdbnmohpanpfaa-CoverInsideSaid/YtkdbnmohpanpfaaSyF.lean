/- An evaluator of a part of Go's operations over a memory of its own, part six: slices made of slices and arrays, rows built, lengths. Conditions: those that each theorem names. -/
import Derived.Test.YtkdbnmohpanpfaaSyE
namespace Go.Proofs.Ytkdbnmohpanpfaa.Sy
open Go
set_option linter.unusedVariables false
set_option linter.unusedSimpArgs false

section
variable {P : Program} {ρ : Loc} {n : Nat} {w : World} {m : Mem}

def ORel (ρ : Loc) (n : Nat) (w : World) : Option Reg → Option Value → Prop
  | none, none => True
  | some r, some v => RRel ρ n w r v
  | _, _ => False

theorem inR_run {r : Reg} {x : Value} {y z : Nat} {i : Nat} {c : BoundsCode} (h : RRel ρ n w r x) (hi : inR r y = some i) (hyz : y ≤ z) (W : World) : (Instr.sliceBound x z c).run P W = .ok i W ∧ i ≤ y := by
  unfold inR at hi
  split at hi
  case h_2 => cases hi
  rename_i k hk
  split at hi
  case isFalse => cases hi
  rename_i hh
  cases hi
  obtain ⟨kk, rfl⟩ := ix_inv h hk
  have h2 : k ≤ (z : Int) := by omega
  exact ⟨by simp [Instr.sliceBound, asIntOf, hh.1, h2], by omega⟩

theorem bnds_run {len cp l h : Nat} {cap c : Option Nat} {lo hi mx : Option Reg} {lo' hi' mx' : Option Value} (isS : Bool)
    (hb : bnds len cap lo hi mx = some (l, h, c)) (h1 : ORel ρ n w lo lo') (h2 : ORel ρ n w hi hi') (h3 : ORel ρ n w mx mx') (hlen : len ≤ cp) (hcap : ∀ c0, cap = some c0 → cp = c0) (W : World) :
    ∃ mm, (Instr.sliceBounds isS len cp lo' hi' mx').run P W = .ok (l, h, mm) W ∧ l ≤ h ∧ h ≤ mm ∧ mm ≤ cp ∧ (∀ c', c = some c' → mm - l = c') := by
  unfold bnds at hb
  split at hb
  case h_1 => cases hb
  rename_i mo hmo
  split at hb
  case h_1 => cases hb
  rename_i hh hhh
  split at hb
  case h_1 => cases hb
  rename_i ll hll
  cases hb
  -- the max
  have hcg : cap.getD len ≤ cp := by
    cases cap with
    | none => simpa using hlen
    | some c0 => simp [hcap c0 rfl]
  have hM : ∃ mm, (∀ W : World, (match mx' with | some v => Instr.sliceBound v cp (if isS then .slice3Acap else .slice3Alen) | none => pure cp).run P W = .ok mm W) ∧ mm ≤ cp ∧ mo.getD len ≤ mm ∧ (∀ c', mo = some c' → mm = c') := by
    cases mx with
    | none =>
      cases mx' with
      | some v => exact h3.elim
      | none =>
        simp only [bMax, Option.some.injEq] at hmo
        subst hmo
        exact ⟨cp, fun W => rfl, Nat.le_refl _, hcg, hcap⟩
    | some r =>
      cases mx' with
      | none => exact h3.elim
      | some v =>
        simp only [bMax, Option.map_eq_some_iff] at hmo
        obtain ⟨i, hi1, rfl⟩ := hmo
        refine ⟨i, fun W => (inR_run h3 hi1 hcg W).1, Nat.le_trans (inR_run (P := P) (c := .slice3B) h3 hi1 hcg W).2 hcg, by simp, by simp⟩
  obtain ⟨mm, hm1, hm2, hm3, hm4⟩ := hM
  have hH : (∀ W : World, (match hi', mx' with
      | some v, some _ => Instr.sliceBound v mm .slice3B
      | some v, none => Instr.sliceBound v mm (if isS then .sliceAcap else .sliceAlen)
      | none, none => pure len
      | none, some _ => stuck "Slice: max without high").run P W = .ok h W) ∧ h ≤ mm := by
    cases hi with
    | none =>
      cases hi' with
      | some v => exact h2.elim
      | none =>
        simp only [bHigh] at hhh
        split at hhh
        case isTrue => cases hhh
        rename_i hne
        cases hhh
        cases mx with
        | some r => simp at hne
        | none =>
          cases mx' with
          | some v => exact h3.elim
          | none =>
            refine ⟨fun W => rfl, ?_⟩
            simp only [bMax, Option.some.injEq] at hmo
            subst hmo
            cases cap with
            | none => simpa using hm3
            | some c0 =>
              have := hm4 c0 rfl
              have := hcap c0 rfl
              omega
    | some r =>
      cases hi' with
      | none => exact h2.elim
      | some v =>
        simp only [bHigh] at hhh
        cases mx' with
        | none => exact ⟨fun W => (inR_run h2 hhh hm3 W).1, Nat.le_trans (inR_run (P := P) (c := .slice3B) h2 hhh hm3 W).2 hm3⟩
        | some _ => exact ⟨fun W => (inR_run h2 hhh hm3 W).1, Nat.le_trans (inR_run (P := P) (c := .slice3B) h2 hhh hm3 W).2 hm3⟩
  obtain ⟨hH1, hH2⟩ := hH
  have hL : (∀ W : World, (match lo' with
      | some v => Instr.sliceBound v h (if mx'.isSome then .slice3C else .sliceB)
      | none => pure 0).run P W = .ok l W) ∧ l ≤ h := by
    cases lo with
    | none =>
      cases lo' with
      | some v => exact h1.elim
      | none => simp only [bLow, Option.some.injEq] at hll; subst hll; exact ⟨fun W => rfl, Nat.zero_le _⟩
    | some r =>
      cases lo' with
      | none => exact h1.elim
      | some v => exact ⟨fun W => (inR_run h1 hll (Nat.le_refl _) W).1, (inR_run (P := P) (c := .slice3B) h1 hll (Nat.le_refl _) W).2⟩
  obtain ⟨hL1, hL2⟩ := hL
  refine ⟨mm, ?_, hL2, hH2, hm2, ?_⟩
  · have a1 := hm1 W
    have a2 := hH1 W
    have a3 := hL1 W
    unfold Instr.sliceBounds
    cases mx' <;> cases hi' <;> cases lo' <;> simp only [Sem.run_bind, Sem.run_pure, Result.andThen_ok, Result.ok.injEq, and_true, Option.isSome_none, Option.isSome_some, Bool.false_eq_true, if_true, if_false] at a1 a2 a3 ⊢ <;> first
      | (rw [a1]; simp only [Result.andThen_ok]; rw [a2]; simp only [Result.andThen_ok]; rw [a3]; rfl)
      | (rw [a1]; simp only [Result.andThen_ok]; rw [a2]; simp [a3])
      | (subst a1; rw [a2]; simp only [Result.andThen_ok]; rw [a3]; rfl)
      | (subst a1; rw [a2]; simp [a3])
      | (subst a1; subst a2; rw [a3]; rfl)
      | (subst a1; subst a2; simp [a3])
      | (simp [stuck, Sem.run] at a2)
  · intro c' hc'
    obtain ⟨x, hx1, hx2⟩ := Option.map_eq_some_iff.1 hc'
    rw [hm4 x hx1]
    exact hx2

theorem slimOo_rel {ng : Nat} {env : Nat → Reg} {a : Act} {x : Option Operand} {y : Option O} (hg : Glob ng ρ n) (he : ERel ρ n w env a) (h : slimOo ng x = some y) : ORel ρ n w (y.map (evO env)) (x.map a.eval) := by
  cases x with
  | none => simp only [slimOo, Option.some.injEq] at h; subst h; trivial
  | some x =>
    simp only [slimOo, Option.map_eq_some_iff] at h
    obtain ⟨z, h1, rfl⟩ := h
    exact evO_rel h1 hg he

variable {o : Oper} {a : Act} {ng : Nat} {env : Nat → Reg}

theorem d_slS {t e : TypeId} {x : Operand} {x' : O} {lo hi mx : Option Operand} {lo' hi' mx' : Option O} {s id off len l h : Nat} {cap c : Option Nat} (ho : o.op = .slice t x lo hi mx) (hm : MRel ρ n w m) (hg : Glob ng ρ n) (he : ERel ρ n w env a)
    (hx : slimO ng x = some x') (h1 : slimOo ng lo = some lo') (h2 : slimOo ng hi = some hi') (h3 : slimOo ng mx = some mx') (hu : P.underlying t = some (.slice e)) (hs : tsz P e = some s)
    (hp : evO env x' = .one (.sl id off len cap s)) (hb : bnds len cap (lo'.map (evO env)) (hi'.map (evO env)) (mx'.map (evO env)) = some (l, h, c)) :
    Does P o a ρ n w m (.one (.sl id (off + l * s) (h - l) c s)) m n := by
  have h1' := evO_rel hx hg he
  rw [hp] at h1'
  obtain ⟨hid, oo, cp, hv, ho1, hlc, hcap, hcells⟩ := sl_inv h1'
  obtain ⟨mm, hr, hl, hh, hmm, hc⟩ := bnds_run (P := P) true hb (slimOo_rel hg he h1) (slimOo_rel hg he h2) (slimOo_rel hg he h3) hlc hcap w
  refine does_same (v := .slice (some ⟨(ρ id).1, if mm = l then oo else oo + l * s, none⟩) (h - l) (mm - l)) ?_ hm ?_
  · simp only [execOp, ho, hv, Instr.sliceAt, Sem.run_bind, run_underlying hu, Result.andThen_ok, Instr.slice, hr, run_sizeOf_tsz hs]
    by_cases e1 : mm = l
    · simp [e1]
    · simp [e1, Addr.add0]
  · simp only [RRel, CRel]
    refine ⟨hid, _, mm - l, rfl, ?_, by omega, fun c' h' => hc c' h', ?_⟩
    · intro hne
      have e1 : mm ≠ l := by omega
      rw [if_neg e1, ho1 (by omega)]
      omega
    · intro j hj
      have e1 : mm ≠ l := by
        intro e1; rw [e1, Nat.sub_self, Nat.zero_mul] at hj; omega
      rw [if_neg e1, Nat.add_assoc]
      refine hcells (l * s + j) ?_
      have h5 : l * s + (mm - l) * s = mm * s := by rw [← Nat.add_mul]; congr 1; omega
      have h6 : mm * s ≤ cp * s := Nat.mul_le_mul_right _ hmm
      omega

theorem nils_inv {x : Value} (h : RRel ρ n w (.one (.sc (.slice none 0 0))) x) : x = .slice none 0 0 := sc_inv h

theorem d_slN {t e : TypeId} {x : Operand} {x' : O} {lo hi mx : Option Operand} {lo' hi' mx' : Option O} {s : Nat} {q : Nat × Nat × Option Nat} (ho : o.op = .slice t x lo hi mx) (hm : MRel ρ n w m) (hg : Glob ng ρ n) (he : ERel ρ n w env a)
    (hx : slimO ng x = some x') (h1 : slimOo ng lo = some lo') (h2 : slimOo ng hi = some hi') (h3 : slimOo ng mx = some mx') (hu : P.underlying t = some (.slice e)) (hs : tsz P e = some s)
    (hp : evO env x' = .one (.sc (.slice none 0 0))) (hb : bnds 0 (some 0) (lo'.map (evO env)) (hi'.map (evO env)) (mx'.map (evO env)) = some q) :
    Does P o a ρ n w m (.one (.sc (.slice none 0 0))) m n := by
  obtain ⟨l, h, c⟩ := q
  have h1' := evO_rel hx hg he
  rw [hp] at h1'
  have hv := nils_inv h1'
  obtain ⟨mm, hr, hl, hh, hmm, hc⟩ := bnds_run (P := P) true hb (slimOo_rel hg he h1) (slimOo_rel hg he h2) (slimOo_rel hg he h3) (Nat.le_refl 0) (fun c0 h => by cases h; rfl) w
  have e1 : mm = 0 := by omega
  have e2 : h = 0 := by omega
  have e3 : l = 0 := by omega
  subst e1; subst e2; subst e3
  refine does_same (v := .slice none 0 0) ?_ hm (by simp [RRel, CRel, Value.oneCell'])
  simp only [execOp, ho, hv, Instr.sliceAt, Sem.run_bind, run_underlying hu, Result.andThen_ok, Instr.slice, hr, run_sizeOf_tsz hs]
  simp

theorem d_slA {t e : TypeId} {x : Operand} {x' : O} {lo hi mx : Option Operand} {lo' hi' mx' : Option O} {s id off len l h : Nat} {c : Option Nat} {b : Blk} (ho : o.op = .slice t x lo hi mx) (hm : MRel ρ n w m) (hg : Glob ng ρ n) (he : ERel ρ n w env a)
    (hx : slimO ng x = some x') (h1 : slimOo ng lo = some lo') (h2 : slimOo ng hi = some hi') (h3 : slimOo ng mx = some mx') (hu : P.underlying t = some (.array len e)) (hs : tsz P e = some s)
    (hp : evO env x' = .one (.ptr id off)) (hmb : m id = some b) (hle : off + len * s ≤ b.cells.length) (hb : bnds len (some len) (lo'.map (evO env)) (hi'.map (evO env)) (mx'.map (evO env)) = some (l, h, c)) :
    Does P o a ρ n w m (.one (.sl id (off + l * s) (h - l) c s)) m n := by
  have h1' := evO_rel hx hg he
  rw [hp] at h1'
  obtain ⟨hid, hv⟩ := ptr_inv h1'
  obtain ⟨mm, hr, hl, hh, hmm, hc⟩ := bnds_run (P := P) false hb (slimOo_rel hg he h1) (slimOo_rel hg he h2) (slimOo_rel hg he h3) (Nat.le_refl len) (fun c0 h => by cases h; rfl) w
  refine does_same (v := .slice (some ⟨(ρ id).1, if mm = l then (ρ id).2 + off else (ρ id).2 + off + l * s, none⟩) (h - l) (mm - l)) ?_ hm ?_
  · simp only [execOp, ho, hv, Instr.sliceAt, Instr.sureAddr, Sem.run_bind, Sem.run_pure, run_underlying hu, Result.andThen_ok, hr, run_sizeOf_tsz hs]
    by_cases e1 : mm = l
    · simp [e1]
    · simp [e1, Addr.add0]
  · simp only [RRel, CRel]
    refine ⟨hid, _, mm - l, rfl, ?_, by omega, fun c' h' => hc c' h', ?_⟩
    · intro hne
      have e1 : mm ≠ l := by omega
      rw [if_neg e1]
      omega
    · intro j hj
      have e1 : mm ≠ l := by
        intro e1; rw [e1, Nat.sub_self, Nat.zero_mul] at hj; omega
      rw [if_neg e1]
      have h5 : l * s + (mm - l) * s = mm * s := by rw [← Nat.add_mul]; congr 1; omega
      have h6 : mm * s ≤ len * s := Nat.mul_le_mul_right _ hmm
      obtain ⟨v, h7, _⟩ := hm.cells id b hmb (off + l * s + j) _ (List.getElem?_eq_getElem (by omega))
      rw [show (ρ id).2 + off + l * s + j = (ρ id).2 + (off + l * s + j) by omega, h7]
      rfl

theorem d_len {t e ty : TypeId} {c : Call} {x : Operand} {x' : O} {id off len s : Nat} {cap : Option Nat} (ho : o.op = .call c) (hca : c.callee = .builtin .len) (hargs : c.args.toList = [x]) (hat : c.argTypes.toList = [t]) (hm : MRel ρ n w m) (hg : Glob ng ρ n) (he : ERel ρ n w env a)
    (hx : slimO ng x = some x') (hu : P.underlying t = some (.slice e)) (hp : evO env x' = .one (.sl id off len cap s)) : Does P o a ρ n w m (.one (.sc (.int .i64 len))) m n := by
  have h1' := evO_rel hx hg he
  rw [hp] at h1'
  obtain ⟨hid, oo, cp, hv, _⟩ := sl_inv h1'
  have e1 : c.args = #[x] := Array.ext' (by simpa using hargs)
  have e2 : c.argTypes = #[t] := Array.ext' (by simpa using hat)
  refine does_same (v := .int .i64 len) ?_ hm (by simp [RRel, CRel, Value.oneCell'])
  simp [execOp, ho, resolve, hca, e1, e2, invoke, builtin, Builtin.len_, run_underlying hu, hv, goInt]

theorem d_lenN {t e ty : TypeId} {c : Call} {x : Operand} {x' : O} (ho : o.op = .call c) (hca : c.callee = .builtin .len) (hargs : c.args.toList = [x]) (hat : c.argTypes.toList = [t]) (hm : MRel ρ n w m) (hg : Glob ng ρ n) (he : ERel ρ n w env a)
    (hx : slimO ng x = some x') (hu : P.underlying t = some (.slice e)) {q : Option Addr} (hp : evO env x' = .one (.sc (.slice q 0 0))) : Does P o a ρ n w m (.one (.sc (.int .i64 0))) m n := by
  have h1' := evO_rel hx hg he
  rw [hp] at h1'
  have hv := sc_inv h1'
  have e1 : c.args = #[x] := Array.ext' (by simpa using hargs)
  have e2 : c.argTypes = #[t] := Array.ext' (by simpa using hat)
  refine does_same (v := .int .i64 0) ?_ hm (by simp [RRel, CRel, Value.oneCell'])
  simp [execOp, ho, resolve, hca, e1, e2, invoke, builtin, Builtin.len_, run_underlying hu, hv, goInt]

theorem d_lenC {t e ty : TypeId} {c : Call} {x : Operand} {k : Nat} (ho : o.op = .call c) (hca : c.callee = .builtin .len) (hargs : c.args.toList = [x]) (hat : c.argTypes.toList = [t]) (hm : MRel ρ n w m)
    (hu : P.underlying t = some (.array k e)) : Does P o a ρ n w m (.one (.sc (.int .i64 k))) m n := by
  have e1 : c.args = #[x] := Array.ext' (by simpa using hargs)
  have e2 : c.argTypes = #[t] := Array.ext' (by simpa using hat)
  refine does_same (v := .int .i64 k) ?_ hm (by simp [RRel, CRel, Value.oneCell'])
  simp [execOp, ho, resolve, hca, e1, e2, invoke, builtin, Builtin.len_, run_underlying hu, goInt]

theorem d_cap {t e ty : TypeId} {c : Call} {x : Operand} {x' : O} {id off len s k : Nat} (ho : o.op = .call c) (hca : c.callee = .builtin .cap) (hargs : c.args.toList = [x]) (hat : c.argTypes.toList = [t]) (hm : MRel ρ n w m) (hg : Glob ng ρ n) (he : ERel ρ n w env a)
    (hx : slimO ng x = some x') (hu : P.underlying t = some (.slice e)) (hp : evO env x' = .one (.sl id off len (some k) s)) : Does P o a ρ n w m (.one (.sc (.int .i64 k))) m n := by
  have h1' := evO_rel hx hg he
  rw [hp] at h1'
  obtain ⟨hid, oo, cp, hv, _, _, hcap, _⟩ := sl_inv h1'
  have hk := hcap k rfl
  subst hk
  have e1 : c.args = #[x] := Array.ext' (by simpa using hargs)
  have e2 : c.argTypes = #[t] := Array.ext' (by simpa using hat)
  refine does_same (v := .int .i64 cp) ?_ hm (by simp [RRel, CRel, Value.oneCell'])
  simp [execOp, ho, resolve, hca, e1, e2, invoke, builtin, Builtin.cap_, run_underlying hu, hv, goInt]

theorem d_capN {t e ty : TypeId} {c : Call} {x : Operand} {x' : O} (ho : o.op = .call c) (hca : c.callee = .builtin .cap) (hargs : c.args.toList = [x]) (hat : c.argTypes.toList = [t]) (hm : MRel ρ n w m) (hg : Glob ng ρ n) (he : ERel ρ n w env a)
    (hx : slimO ng x = some x') (hu : P.underlying t = some (.slice e)) (hp : evO env x' = .one (.sc (.slice none 0 0))) : Does P o a ρ n w m (.one (.sc (.int .i64 0))) m n := by
  have h1' := evO_rel hx hg he
  rw [hp] at h1'
  have hv := nils_inv h1'
  have e1 : c.args = #[x] := Array.ext' (by simpa using hargs)
  have e2 : c.argTypes = #[t] := Array.ext' (by simpa using hat)
  refine does_same (v := .int .i64 0) ?_ hm (by simp [RRel, CRel, Value.oneCell'])
  simp [execOp, ho, resolve, hca, e1, e2, invoke, builtin, Builtin.cap_, run_underlying hu, hv, goInt]

/-! ### rows that are built -/
def setV (l : List Value) (o : Nat) : List Value → List Value
  | [] => l
  | c :: cs => setV (l.set o c) (o + 1) cs

theorem CRels.set {cs : List Cell} {vs : List Value} {c : Cell} {v : Value} (h : CRels ρ n w cs vs) (hc : CRel ρ n w c v) (k : Nat) : CRels ρ n w (cs.set k c) (vs.set k v) := by
  induction cs generalizing vs k with
  | nil => simp only [CRels] at h; subst h; simp [CRels]
  | cons x xs ih =>
    simp only [CRels] at h
    obtain ⟨u, r, rfl, h2, h3⟩ := h
    cases k with
    | zero => simp only [List.set_cons_zero, CRels]; exact ⟨v, r, rfl, hc, h3⟩
    | succ k => simp only [List.set_cons_succ, CRels]; exact ⟨u, r.set k v, rfl, h2, ih h3 k⟩

theorem CRels.setL : ∀ {ds : List Cell} {us : List Value} {cs : List Cell} {vs : List Value} (k : Nat), CRels ρ n w cs vs → CRels ρ n w ds us → CRels ρ n w (Sy.setL cs k ds) (setV vs k us)
  | [], us, cs, vs, k, h, hd => by simp only [CRels] at hd; subst hd; exact h
  | d :: ds, us, cs, vs, k, h, hd => by
    simp only [CRels] at hd
    obtain ⟨u, r, rfl, h2, h3⟩ := hd
    exact CRels.setL (k + 1) (h.set h2 k) h3

theorem foldl_setV (off : Nat) : ∀ (us : List Value) (k : Nat) (arr : Array Value), (us.zipIdx k).foldl (fun cs (x : Value × Nat) => cs.setIfInBounds (off + x.2) x.1) arr = (setV arr.toList (off + k) us).toArray
  | [], k, arr => by simp [setV]
  | u :: us, k, arr => by
    rw [List.zipIdx_cons, List.foldl_cons, foldl_setV off us (k + 1)]
    simp [setV, Nat.add_assoc]

theorem setV_length : ∀ (cs l : List Value) (o : Nat), (setV l o cs).length = l.length
  | [], l, o => rfl
  | c :: cs, l, o => by rw [setV, setV_length cs]; simp

theorem fill_rel (hg : Glob ng ρ n) (he : ERel ρ n w env a) {place : Nat → Option (Nat × Nat)} : ∀ {ps : List (Nat × Operand)} {qs : List (Nat × Nat × O)} {cs : List Cell} {vs : List Value} {cs' : List Cell},
    slimParts ng place ps = some qs → CRels ρ n w cs vs → fillC env cs qs = some cs' → ∃ vs' : List Value, Instr.fill place vs.toArray (ps.map fun (i, x) => (i, a.eval x)) = some vs'.toArray ∧ CRels ρ n w cs' vs'
  | [], qs, cs, vs, cs', hp, hc, hf => by
    simp only [slimParts, Option.some.injEq] at hp
    subst hp
    simp only [fillC, Option.some.injEq] at hf
    subst hf
    exact ⟨vs, rfl, hc⟩
  | (i, x) :: ps, qs, cs, vs, cs', hp, hc, hf => by
    simp only [slimParts] at hp
    split at hp
    case h_2 => cases hp
    rename_i off size y ys h1 h2 h3
    cases hp
    simp only [fillC] at hf
    split at hf
    case h_2 => cases hf
    rename_i ds hds
    split at hf
    case isFalse => cases hf
    rename_i hh
    obtain ⟨us, hu1, hu2⟩ := cs_rel (evO_rel h2 hg he) hds
    obtain ⟨vs', h4, h5⟩ := fill_rel hg he h3 (CRels.setL off hc hu2) hf
    refine ⟨vs', ?_, h5⟩
    have hl1 := CRels.length _ _ hc
    have hl2 := CRels.length _ _ hu2
    have e1 : ¬ (us.toArray.size ≠ size || off + us.toArray.size > vs.toArray.size) = true := by
      simp only [List.size_toArray, ne_eq, decide_not, Bool.or_eq_true, Bool.not_eq_true', decide_eq_false_iff_not, decide_eq_true_eq, not_or, Decidable.not_not]
      omega
    simp only [List.map_cons, Instr.fill, h1, hu1]
    rw [if_neg e1]
    have e2 := foldl_setV off us 0 vs.toArray
    simp only [Nat.add_zero] at e2
    rw [← h4, ← Array.foldl_toList, Array.toList_zipIdx]
    simp only [e2]

theorem tzero_inv {t : TypeId} {z : List Value} (h : tzero P t = some z) : ∃ i v, P.info? t = some i ∧ i.zero = some v ∧ v.cells = z.toArray ∧ (∀ x ∈ z, x.oneCell' = true) := by
  unfold tzero at h
  split at h
  case h_2 => cases h
  rename_i v hv
  split at h
  case isFalse => cases h
  rename_i hall
  cases h
  obtain ⟨i, h1, h2⟩ := Option.bind_eq_some_iff.1 hv
  exact ⟨i, v, h1, h2, by simp, fun x hx => List.all_eq_true.1 hall x hx⟩
theorem run_zeroValue' {t : TypeId} {i : TypeInfo} {v : Value} (h1 : P.info? t = some i) (h2 : i.zero = some v) (w : World) : (zeroValue t).run P w = .ok v w := by
  simp [zeroValue, typeInfo, h1, h2]

theorem d_build_arr {t e : TypeId} {ps : Array (Nat × Operand)} {qs : List (Nat × Nat × O)} {z : List Value} {s k : Nat} {cs : List Cell} (ho : o.op = .build t ps) (hm : MRel ρ n w m) (hg : Glob ng ρ n) (he : ERel ρ n w env a)
    (hz : tzero P t = some z) (hu : P.underlying t = some (.array k e)) (hs : tsz P e = some s) (hq : slimParts ng (fun i => some (i * s, s)) ps.toList = some qs) (hf : fillC env (z.map .sc) qs = some cs) :
    Does P o a ρ n w m (.agg cs) m n := by
  obtain ⟨i, v, h1, h2, h3, h4⟩ := tzero_inv hz
  obtain ⟨vs', h5, h6⟩ := fill_rel hg he hq (CRels.sc z h4) hf
  refine does_same (v := .agg vs'.toArray) ?_ hm (by simp only [RRel]; exact ⟨vs', rfl, h6⟩)
  simp [execOp, ho, Instr.build, run_zeroValue' h1 h2, run_underlying hu, run_sizeOf_tsz hs, h3, h5]

theorem mapM_places {fs : List Field} (h : ∀ f ∈ fs, (P.info? f.type).isSome = true) (w : World) : (fs.mapM fun f => do pure (f.offset, ← sizeOf f.type) : Sem (List (Nat × Nat))).run P w = .ok (fs.map fun f => (f.offset, (tsz P f.type).getD 0)) w := by
  induction fs with
  | nil => rfl
  | cons f fs ih =>
    obtain ⟨i, hi⟩ := Option.isSome_iff_exists.1 (h f (by simp))
    have hs : tsz P f.type = some i.size := by simp [tsz, hi]
    simp only [List.mapM_cons, Sem.run_bind, run_sizeOf_tsz hs, Result.andThen_ok, Sem.run_pure]
    rw [ih (fun g hg => h g (by simp [hg]))]
    simp [hs]

theorem d_build_str {t : TypeId} {ps : Array (Nat × Operand)} {qs : List (Nat × Nat × O)} {z : List Value} {fs : Array Field} {cs : List Cell} (ho : o.op = .build t ps) (hm : MRel ρ n w m) (hg : Glob ng ρ n) (he : ERel ρ n w env a)
    (hz : tzero P t = some z) (hu : P.underlying t = some (.struct fs)) (hall : (fs.all fun f => (P.info? f.type).isSome) = true) (hq : slimParts ng (placeOf P fs) ps.toList = some qs) (hf : fillC env (z.map .sc) qs = some cs) :
    Does P o a ρ n w m (.agg cs) m n := by
  obtain ⟨i, v, h1, h2, h3, h4⟩ := tzero_inv hz
  have hall' : ∀ f ∈ fs.toList, (P.info? f.type).isSome = true := by
    have := Array.all_eq_true_iff_forall_mem.1 hall
    intro f hf; exact this f (by simpa using hf)
  have hpl : (fun i => (fs.toList.map fun f => (f.offset, (tsz P f.type).getD 0)).toArray[i]?) = placeOf P fs := by
    funext i
    unfold placeOf
    by_cases hi : i < fs.size
    · have : (P.info? fs[i].type).isSome = true := hall' _ (by simp)
      obtain ⟨q, hq⟩ := Option.isSome_iff_exists.1 this
      simp [hi, tsz, hq]
    · simp [hi]
  obtain ⟨vs', h5, h6⟩ := fill_rel hg he hq (CRels.sc z h4) hf
  refine does_same (v := .agg vs'.toArray) ?_ hm (by simp only [RRel]; exact ⟨vs', rfl, h6⟩)
  have h7 := mapM_places hall' w
  simp only [execOp, ho, Instr.build, Sem.run_bind, run_zeroValue' h1 h2, run_underlying hu, Result.andThen_ok, h3]
  rw [Array.mapM_eq_mapM_toList]
  simp only [bind_pure_comp, map_pure] at h7 ⊢
  simp only [Sem.run_bind, Sem.run_map, Functor.map_map, h7, Result.andThen_ok, Array.toList_map, hpl, h5]
  simp [h7, hpl, h5]
end
end Go.Proofs.Ytkdbnmohpanpfaa.Sy
