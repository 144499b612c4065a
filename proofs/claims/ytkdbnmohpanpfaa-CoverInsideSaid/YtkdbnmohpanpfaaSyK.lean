/- An evaluator of a part of Go's operations over a memory of its own, part eleven: a region, its operations in their order. Conditions: those that each theorem names. -/
import Derived.Test.YtkdbnmohpanpfaaSyJ
namespace Go.Proofs.Ytkdbnmohpanpfaa.Sy
open Go
set_option linter.unusedVariables false
set_option linter.unusedSimpArgs false

/-- A state that stands to the machine's. -/
structure Good (N ng : Nat) (ρ : Loc) (n : Nat) (w : World) (env : Nat → Reg) (m : Mem) (a : Act) : Prop where
  mem : MRel ρ n w m
  glob : Glob ng ρ n
  env : ERel ρ n w env a
  size : a.tmps.size = N

section
variable {N ng : Nat} {ρ ρ' : Loc} {n n' : Nat} {w w' : World} {env : Nat → Reg} {m m' : Mem} {a : Act}

theorem ERel.put {dst : Option Nat} {r : Reg} {v : Value} (h : ERel ρ n w env a) (hv : RRel ρ n w r v) (hd : ∀ d, dst = some d → d < a.tmps.size) : ERel ρ n w (putE env dst r) (a.put dst v) := by
  cases dst with
  | none => exact h
  | some d =>
    have hlt := hd d rfl
    intro t
    simp only [putE, Act.put]
    by_cases e : t = d
    · subst e
      rw [upd_same]
      simpa [Array.getD_eq_getD_getElem?, hlt] using hv
    · rw [upd_ne _ _ e]
      have := h t
      simpa [Array.getD_eq_getD_getElem?, Array.getElem?_setIfInBounds_ne (Ne.symm e)] using this

theorem Act.size_put (a : Act) (dst : Option Nat) (v : Value) : (a.put dst v).tmps.size = a.tmps.size := by
  cases dst <;> simp [Act.put]
theorem Act.defers_put (a : Act) (dst : Option Nat) (v : Value) : (a.put dst v).defers = a.defers := by
  cases dst <;> simp [Act.put]

theorem Good.step (h : Good N ng ρ n w env m a) (hs : Step ρ n w m ρ' n' w' m') {dst : Option Nat} {r : Reg} {v : Value} (hv : RRel ρ' n' w' r v) (hd : ∀ d, dst = some d → d < N) :
    Good N ng ρ' n' w' (putE env dst r) m' (a.put dst v) :=
  ⟨hs.rel, h.glob.mono hs.le, (h.env.mono hs.le).put hv (fun d hh => by rw [h.size]; exact hd d hh), by rw [Act.size_put]; exact h.size⟩

theorem undef_rel : RRel ρ n w (.tup []) undef := by simp only [RRel, undef]; exact ⟨[], rfl, by simp [RRels]⟩

theorem bool_at (h : ERel ρ n w env a) (t : Nat) : (match a.tmps[t]? with | some (.bool b) => some b | _ => none) = boolOf (env t) := by
  have ht := h t
  rw [Array.getD_eq_getD_getElem?] at ht
  cases hc : a.tmps[t]? with
  | none =>
    rw [hc] at ht
    simp only [Option.getD_none, undef] at ht
    cases he : env t with
    | one c =>
      rw [he] at ht
      simp only [RRel] at ht
      have := CRel.one _ _ ht
      simp [Value.oneCell'] at this
    | agg cs => rfl
    | tup rs => rfl
  | some v =>
    rw [hc] at ht
    simp only [Option.getD_some] at ht
    cases he : env t with
    | one c =>
      rw [he] at ht
      cases c with
      | sc u =>
        have := sc_inv ht
        subst this
        cases v <;> rfl
      | ptr id off => obtain ⟨_, rfl⟩ := ptr_inv ht; rfl
      | sl id off len cap sz => obtain ⟨_, _, _, rfl, _⟩ := sl_inv ht; rfl
      | clo f cs =>
        obtain ⟨vs, rfl, _⟩ : ∃ vs : List Value, v = .func (.func f) #[] vs.toArray ∧ CRels ρ n w cs vs := by simpa only [RRel, CRel] using ht
        rfl
    | agg cs =>
      rw [he] at ht
      obtain ⟨vs, rfl, _⟩ := agg_inv ht
      rfl
    | tup rs =>
      rw [he] at ht
      obtain ⟨vs, rfl, _⟩ : ∃ vs : List Value, v = .tuple vs.toArray ∧ RRels ρ n w rs vs := by simpa only [RRel] using ht
      rfl

variable {P : Program} {md : Nat → Mode} {ops : Array Oper} {o : Oper} {so : SOper}

theorem wanted_eq (h : ERel ρ n w env a) (hs : slimOper P ng md ops o = some so) : Region.wanted o (yielded ops a.tmps) = wantedS env so := by
  unfold slimOper at hs
  simp only [Option.some.injEq] at hs
  subst hs
  unfold Region.wanted wantedS
  cases hg : o.guard with
  | none => rfl
  | some g =>
    obtain ⟨j, want⟩ := g
    simp only [Option.map_some]
    cases hd : (ops[j]?).bind (·.dst) with
    | none => simp [yielded, hd]
    | some t =>
      have := bool_at h t
      simp only [yielded, hd, Option.bind_some]
      exact congrArg (fun z => z == some want) this

/-- What belongs together. -/
def Matches (P : Program) (ng N : Nat) (md : Nat → Mode) (ops : Array Oper) (i : Nat) (so : SOper) : Prop :=
  ∃ o, ops[i]? = some o ∧ slimOper P ng md ops o = some so ∧ ∀ d, so.dst = some d → d < N

theorem slimOp_sem {o : Oper} {s : SOp} (h : slimOp P ng md o.op = some s) (ev : Operand → Value) (rd : Option Nat) : o.semAt rd ev = execOp ev o :=
  Oper.semAt_eq rd ev o (fun c e => by rw [e] at h; simp [slimOp] at h)

variable {F : Fence} {nf : Nat} [Wide F]

theorem wpOp_sound {call : Callf} {Q : Exit → Act → World → Prop} {K : Act → World → Prop} {i : Nat} {r : Reg} (hcall : CallOK P ng call) (hM : Matches P ng N md ops i so) (hG : Good N ng ρ n w env m a)
    (hev : (match wantedS env so with | true => evalOp call env m n so.op | false => some (.tup [], m, n)) = some (r, m', n'))
    (hK : ∀ v ρ' w', Step ρ n w m ρ' n' w' m' → RRel ρ' n' w' r v → K (a.put so.dst v) w') : wpOpIn F nf P ops Q i K a w := by
  obtain ⟨o, h1, h2, h3⟩ := hM
  have hw := wanted_eq (a := a) hG.env h2
  have h2' := h2
  unfold slimOper at h2
  simp only [Option.some.injEq] at h2
  subst h2
  unfold wpOpIn
  simp only [h1, hw]
  cases hq : wantedS env ⟨o.dst, (slimOp P ng md o.op).getD .stuck, o.guard.map fun g => ((ops[g.1]?).bind (·.dst), g.2)⟩ with
  | true =>
    simp only [hq] at hev
    simp only [if_true]
    have h4 : slimOp P ng md o.op = some ((slimOp P ng md o.op).getD .stuck) := by
      cases hs : slimOp P ng md o.op with
      | some s => rfl
      | none => rw [hs] at hev; simp [evalOp] at hev
    exact evalOp_does hcall h4 hev hG.mem hG.glob hG.env F nf K Q (slimOp_sem h4 a.eval) hK
  | false =>
    simp only [hq, Option.some.injEq, Prod.mk.injEq] at hev
    obtain ⟨rfl, rfl, rfl⟩ := hev
    simp only [Bool.false_eq_true, if_false]
    exact ⟨fun f _ => Wide.fn f, hK undef ρ w (Step.refl hG.mem) undef_rel⟩

theorem wpOps_sound {call : Callf} {Q : Exit → Act → World → Prop} (hcall : CallOK P ng call) : ∀ (l : List Nat) (ss : List SOper) (env env' : Nat → Reg) (m m' : Mem) (n n' : Nat) (ρ : Loc) (a : Act) (w : World),
    l.length = ss.length → (∀ (j i : Nat) (so : SOper), l[j]? = some i → ss[j]? = some so → Matches P ng N md ops i so) → Good N ng ρ n w env m a → evalOps call ss env m n = some (env', m', n') →
    (∀ ρ' a' w', Step ρ n w m ρ' n' w' m' → Good N ng ρ' n' w' env' m' a' → a'.defers = a.defers → Q .normal a' w') → wpOpsIn F nf P ops Q l a w
  | [], [], env, env', m, m', n, n', ρ, a, w, _, _, hG, hev, hQ => by
    simp only [evalOps, Option.some.injEq, Prod.mk.injEq] at hev
    obtain ⟨rfl, rfl, rfl⟩ := hev
    exact hQ ρ a w (Step.refl hG.mem) hG rfl
  | [], s :: ss, _, _, _, _, _, _, _, _, _, hl, _, _, _, _ => by simp at hl
  | i :: l, [], _, _, _, _, _, _, _, _, _, hl, _, _, _, _ => by simp at hl
  | i :: l, s :: ss, env, env', m, m', n, n', ρ, a, w, hl, hM, hG, hev, hQ => by
    rw [wpOpsIn_cons]
    have hM0 := hM 0 i s rfl rfl
    have hd : ∀ d, s.dst = some d → d < N := by obtain ⟨_, _, _, h⟩ := hM0; exact h
    have hev' : ∃ r m1 n1, (match wantedS env s with | true => evalOp call env m n s.op | false => some (.tup [], m, n)) = some (r, m1, n1) ∧ evalOps call ss (putE env s.dst r) m1 n1 = some (env', m', n') := by
      simp only [evalOps] at hev
      cases hw : wantedS env s with
      | true =>
        simp only [hw] at hev
        split at hev
        · rename_i r m1 n1 h1
          exact ⟨r, m1, n1, h1, hev⟩
        · cases hev
      | false =>
        simp only [hw] at hev
        exact ⟨.tup [], m, n, rfl, hev⟩
    obtain ⟨r, m1, n1, h1, h2⟩ := hev'
    refine wpOp_sound hcall hM0 hG h1 (fun v ρ1 w1 hst hv => ?_)
    refine wpOps_sound hcall l ss _ env' m1 m' n1 n' ρ1 _ w1 (by simpa using hl) (fun j i' so' h3 h4 => hM (j + 1) i' so' (by simpa using h3) (by simpa using h4)) (hG.step hst hv hd) h2 (fun ρ' a' w' h3 h4 h5 => ?_)
    exact hQ ρ' a' w' (hst.trans h3) h4 (by rw [h5, Act.defers_put])
end
end Go.Proofs.Ytkdbnmohpanpfaa.Sy
