/- An evaluator of a part of Go's operations over a memory of its own, part fifteen: rules for the evaluator, without a bound on its rounds. Conditions: those that each theorem names. -/
import Derived.Test.YtkdbnmohpanpfaaSyN
namespace Go.Proofs.Ytkdbnmohpanpfaa.Sy
open Go
set_option linter.unusedVariables false
set_option linter.unusedSimpArgs false

def CallLe (c1 c2 : Callf) : Prop := ∀ f a m n x, c1 f a m n = some x → c2 f a m n = some x

section
variable {c1 c2 : Callf}
theorem doCall_mono (h : CallLe c1 c2) {md : Mode} {f : Nat} {a : List Reg} {m : Mem} {n : Nat} {x : Reg × Mem × Nat} (hx : doCall c1 md f a m n = some x) : doCall c2 md f a m n = some x := by
  unfold doCall at hx ⊢
  cases md with
  | q =>
    simp only at hx ⊢
    split at hx
    case h_2 => cases hx
    rename_i r m1 n1 h1
    rw [h _ _ _ _ _ h1]
    exact hx
  | k =>
    simp only at hx ⊢
    split at hx
    case h_2 => cases hx
    rename_i r m1 n1 h1
    rw [h _ _ _ _ _ h1]
    exact hx
  | w => exact h _ _ _ _ _ hx
  | t =>
    simp only at hx ⊢
    split at hx
    case h_2 => cases hx
    rename_i b hb
    split at hx
    case isFalse => cases hx
    rename_i hf
    rw [if_pos hf]
    split at hx
    case h_2 => cases hx
    rename_i r m1 n1 h1
    rw [h _ _ _ _ _ h1]
    exact hx
  | z g =>
    simp only at hx ⊢
    split at hx
    case isFalse => cases hx
    rename_i hf
    rw [if_pos hf]
    split at hx
    case h_2 => cases hx
    rename_i r m1 n1 h1
    rw [h _ _ _ _ _ h1]
    exact hx

theorem evalOp_mono (h : CallLe c1 c2) {so : SOp} {env : Nat → Reg} {m : Mem} {n : Nat} {x : Reg × Mem × Nat} (hx : evalOp c1 env m n so = some x) : evalOp c2 env m n so = some x := by
  cases so with
  | call md f a => simp only [evalOp] at hx ⊢; exact doCall_mono h hx
  | callv md f a =>
    simp only [evalOp] at hx ⊢
    split at hx
    case h_2 => cases hx
    rename_i hp
    exact doCall_mono h hx
  | eqnil k neg x =>
    match k with
    | 0 => simpa only [evalOp] using hx
    | 1 => simpa only [evalOp] using hx
    | 2 => simpa only [evalOp] using hx
    | k + 3 => simp only [evalOp] at hx; cases hx
  | _ => simpa only [evalOp] using hx

theorem evalOps_mono (h : CallLe c1 c2) : ∀ {os : List SOper} {env : Nat → Reg} {m : Mem} {n : Nat} {x : (Nat → Reg) × Mem × Nat}, evalOps c1 os env m n = some x → evalOps c2 os env m n = some x
  | [], env, m, n, x, hx => by simpa only [evalOps] using hx
  | o :: os, env, m, n, x, hx => by
    simp only [evalOps] at hx ⊢
    split at hx
    · rename_i hw
      split at hx
      case h_2 => cases hx
      rename_i r m1 n1 h1
      rw [evalOp_mono h h1]
      exact evalOps_mono h hx
    · rename_i hw
      exact evalOps_mono h hx

theorem walkGo_mono (h : CallLe c1 c2) {nd fb id off : Nat} {B1 B2 : List Cell → List Cell → Mem → Nat → Option (Mem × Nat)} (hB : ∀ fr cs m n x, B1 fr cs m n = some x → B2 fr cs m n = some x) :
    ∀ (k i : Nat) (m : Mem) (n : Nat) (x : Mem × Nat), walkGo c1 nd B1 fb id off k i m n = some x → walkGo c2 nd B2 fb id off k i m n = some x
  | 0, i, m, n, x, hx => hx
  | k + 1, i, m, n, x, hx => by
    simp only [walkGo] at hx ⊢
    split at hx
    case h_2 => cases hx
    rename_i cs fr h1 h2
    split at hx
    case h_2 => cases hx
    rename_i m1 n1 h3
    rw [hB _ _ _ _ _ h3]
    simp only
    split at hx
    case h_2 => cases hx
    rename_i c h4
    split at hx
    case h_2 => cases hx
    rename_i d m2 n2 h5
    rw [doCall_mono h h5]
    simp only
    split at hx
    · rename_i hd
      rw [if_pos hd]
      split at hx
      case isFalse => cases hx
      rename_i hd3
      rw [if_pos hd3]
      split at hx
      case h_2 => cases hx
      rename_i q h6
      split at hx
      case h_2 => cases hx
      rename_i m3 h7
      exact walkGo_mono h hB k (i + 1) _ _ x hx
    · rename_i hd
      rw [if_neg hd]
      exact walkGo_mono h hB k (i + 1) _ _ x hx

theorem exec_mono (h : CallLe c1 c2) {K1 K2 : Nat} (hK : K1 ≤ K2) : ∀ {c : SC} {s : St} {x : Ex × St}, exec c1 K1 c s = some x → exec c2 K2 c s = some x := by
  intro c
  induction c with
  | skip => intro s x hx; simpa only [exec] using hx
  | exit id => intro s x hx; simpa only [exec] using hx
  | ret => intro s x hx; simpa only [exec] using hx
  | reg os =>
    intro s x hx
    simp only [exec] at hx ⊢
    split at hx
    case h_2 => cases hx
    rename_i e m n h1
    rw [evalOps_mono h h1]
    exact hx
  | dreg dis os =>
    intro s x hx
    simp only [exec] at hx ⊢
    split at hx
    case h_2 => cases hx
    rename_i e m n h1
    rw [evalOps_mono h h1]
    exact hx
  | ureg es dis os =>
    intro s x hx
    simp only [exec] at hx ⊢
    split at hx
    case h_2 => cases hx
    rename_i e m n h1
    rw [evalOps_mono h h1]
    exact hx
  | preg j f args dis os =>
    intro s x hx
    simp only [exec] at hx ⊢
    split at hx
    case h_2 => cases hx
    rename_i r m0 n0 h0
    rw [h _ _ _ _ _ h0]
    simp only
    split at hx
    case isFalse => cases hx
    rename_i hf
    rw [if_pos hf]
    split at hx
    case h_2 => cases hx
    rename_i e m n h1
    rw [evalOps_mono h h1]
    exact hx
  | pureg j f args es dis os =>
    intro s x hx
    simp only [exec] at hx ⊢
    split at hx
    case h_2 => cases hx
    rename_i e1 m9 n9 h9
    rw [evalOps_mono h h9]
    simp only
    split at hx
    case h_2 => cases hx
    rename_i r m0 n0 h0
    rw [h _ _ _ _ _ h0]
    simp only
    split at hx
    case isFalse => cases hx
    rename_i hf
    rw [if_pos hf]
    split at hx
    case h_2 => cases hx
    rename_i e m n h1
    rw [evalOps_mono h h1]
    exact hx
  | seq a b iha ihb =>
    intro s x hx
    simp only [exec] at hx ⊢
    cases h1 : exec c1 K1 a s with
    | none => rw [h1] at hx; cases hx
    | some y =>
      rw [iha h1]
      rw [h1] at hx
      obtain ⟨e, s'⟩ := y
      cases e with
      | n => exact ihb hx
      | x id => exact hx
      | r => exact hx
  | cond c a b iha ihb =>
    intro s x hx
    simp only [exec] at hx ⊢
    split at hx
    case h_2 => cases hx
    rename_i t ht
    cases t
    · exact ihb hx
    · exact iha hx
  | block id b ih =>
    intro s x hx
    simp only [exec] at hx ⊢
    cases h1 : exec c1 K1 b s with
    | none => rw [h1] at hx; cases hx
    | some y =>
      rw [ih h1]
      rw [h1] at hx
      exact hx
  | loop b ih =>
    intro s x hx
    simp only [exec] at hx ⊢
    have key : ∀ (k1 k2 : Nat) (s : St), k1 ≤ k2 → iter (exec c1 K1 b) k1 s = some x → iter (exec c2 K2 b) k2 s = some x := by
      intro k1
      induction k1 with
      | zero => intro k2 s _ hi; simp [iter] at hi
      | succ k1 ihk =>
        intro k2 s hle hi
        obtain ⟨k2, rfl⟩ : ∃ k, k2 = k + 1 := ⟨k2 - 1, by omega⟩
        simp only [iter] at hi ⊢
        cases h1 : exec c1 K1 b s with
        | none => rw [h1] at hi; cases hi
        | some y =>
          rw [ih h1]
          rw [h1] at hi
          obtain ⟨e, s'⟩ := y
          cases e with
          | n => exact ihk k2 s' (by omega) hi
          | x id => exact hi
          | r => exact hi
    exact key K1 K2 s hK hx
  | walk fi nd p1 p2 o a b iha ihb =>
    intro s x hx
    simp only [exec] at hx ⊢
    split at hx
    case h_2 => cases hx
    rename_i f bx hp
    split at hx
    case isFalse => cases hx
    rename_i hf
    rw [if_pos hf]
    split at hx
    case h_2 => cases hx
    rename_i c hc
    split at hx
    case h_2 => cases hx
    rename_i id off len hs
    split at hx
    case h_2 => cases hx
    rename_i m' n' hw
    rw [walkGo_mono h (fun fr cs m n y hy => ?_) _ _ _ _ _ hw]
    · exact hx
    · unfold walkB at hy ⊢
      split at hy
      case h_2 => cases hy
      rename_i s1 h1
      rw [iha h1]
      simp only
      split at hy
      case h_2 => cases hy
      rename_i s2 h2
      rw [ihb h2]
      exact hy
end

theorem run_succ {T : Nat → Option SFun} : ∀ k, CallLe (run T k) (run T (k + 1))
  | 0 => fun f a m n x h => by simp [run] at h
  | k + 1 => fun f a m n x h => by
    rw [run] at h ⊢
    cases hT : T f with
    | none => simp only [hT] at h; cases h
    | some fn =>
      simp only [hT] at h ⊢
      split at h
      case isFalse => cases h
      rename_i hl
      rw [if_pos hl]
      cases h1 : exec (run T k) k fn.body ⟨fun t => a.getD t (.tup []), m, n⟩ with
      | none => rw [h1] at h; cases h
      | some y =>
        rw [h1] at h
        rw [exec_mono (run_succ k) (Nat.le_succ k) h1]
        exact h

theorem run_mono {T : Nat → Option SFun} {k k' : Nat} (h : k ≤ k') : CallLe (run T k) (run T k') := by
  induction h with
  | refl => exact fun _ _ _ _ _ h => h
  | step _ ih => exact fun f a m n x hx => run_succ _ f a m n x (ih f a m n x hx)

/-- A function, called: what comes out. -/
def Fn (T : Nat → Option SFun) (f : Nat) (a : List Reg) (m : Mem) (n : Nat) (Q : Reg → Mem → Nat → Prop) : Prop :=
  ∃ k r m' n', run T k f a m n = some (r, m', n') ∧ Q r m' n'
/-- Code. -/
def X (T : Nat → Option SFun) (c : SC) (s : St) (Q : Ex → St → Prop) : Prop :=
  ∃ k e s', exec (run T k) k c s = some (e, s') ∧ Q e s'
/-- A row of operations. -/
def R (T : Nat → Option SFun) (os : List SOper) (env : Nat → Reg) (m : Mem) (n : Nat) (Q : (Nat → Reg) → Mem → Nat → Prop) : Prop :=
  ∃ k e m' n', evalOps (run T k) os env m n = some (e, m', n') ∧ Q e m' n'

section
variable {T : Nat → Option SFun}

theorem Fn.mono {f : Nat} {a : List Reg} {m : Mem} {n : Nat} {Q Q' : Reg → Mem → Nat → Prop} (h : Fn T f a m n Q) (hq : ∀ r m n, Q r m n → Q' r m n) : Fn T f a m n Q' := by
  obtain ⟨k, r, m', n', h1, h2⟩ := h
  exact ⟨k, r, m', n', h1, hq _ _ _ h2⟩
theorem X.mono {c : SC} {s : St} {Q Q' : Ex → St → Prop} (h : X T c s Q) (hq : ∀ e s, Q e s → Q' e s) : X T c s Q' := by
  obtain ⟨k, e, s', h1, h2⟩ := h
  exact ⟨k, e, s', h1, hq _ _ h2⟩

theorem R_nil {env : Nat → Reg} {m : Mem} {n : Nat} {Q : (Nat → Reg) → Mem → Nat → Prop} : R T [] env m n Q = Q env m n := by
  apply propext
  constructor
  · rintro ⟨k, e, m', n', h1, h2⟩
    simp only [evalOps, Option.some.injEq, Prod.mk.injEq] at h1
    obtain ⟨rfl, rfl, rfl⟩ := h1
    exact h2
  · intro h
    exact ⟨0, env, m, n, rfl, h⟩

def noCall : Callf := fun _ _ _ _ => none
def isCall : SOp → Bool
  | .call .. | .callv .. => true
  | _ => false

theorem evalOp_noCall {c : Callf} {so : SOp} {env : Nat → Reg} {m : Mem} {n : Nat} (h : isCall so = false) : evalOp c env m n so = evalOp noCall env m n so := by
  cases so with
  | call md f a => simp [isCall] at h
  | callv md f a => simp [isCall] at h
  | eqnil k neg x =>
    match k with
    | 0 => simp only [evalOp]
    | 1 => simp only [evalOp]
    | 2 => simp only [evalOp]
    | k + 3 => simp only [evalOp]
  | _ => simp only [evalOp]

/-- What a step hands on. -/
def Then (T : Nat → Option SFun) (d : Option Nat) (os : List SOper) (env : Nat → Reg) (Q : (Nat → Reg) → Mem → Nat → Prop) : Option (Reg × Mem × Nat) → Prop
  | some (r, m', n') => R T os (putE env d r) m' n' Q
  | none => False

theorem R_op {d : Option Nat} {op : SOp} {os : List SOper} {env : Nat → Reg} {m : Mem} {n : Nat} {Q : (Nat → Reg) → Mem → Nat → Prop} (hc : isCall op = false) :
    R T (⟨d, op, none⟩ :: os) env m n Q = Then T d os env Q (evalOp noCall env m n op) := by
  apply propext
  constructor
  · rintro ⟨k, e, m', n', h1, h2⟩
    simp only [evalOps, wantedS] at h1
    rw [evalOp_noCall hc] at h1
    split at h1
    case h_2 => cases h1
    rename_i r m1 n1 h3
    rw [h3]
    exact ⟨k, e, m', n', h1, h2⟩
  · intro h
    cases h3 : evalOp noCall env m n op with
    | none => rw [h3] at h; exact h.elim
    | some y =>
      obtain ⟨r, m1, n1⟩ := y
      rw [h3] at h
      obtain ⟨k, e, m', n', h1, h2⟩ := h
      refine ⟨k, e, m', n', ?_, h2⟩
      simp only [evalOps, wantedS]
      rw [evalOp_noCall hc, h3]
      exact h1

theorem R_guard {d : Option Nat} {op : SOp} {t : Nat} {b : Bool} {os : List SOper} {env : Nat → Reg} {m : Mem} {n : Nat} {Q : (Nat → Reg) → Mem → Nat → Prop} :
    R T (⟨d, op, some (some t, b)⟩ :: os) env m n Q = (if boolOf (env t) = some b then R T (⟨d, op, none⟩ :: os) env m n Q else R T os (putE env d (.tup [])) m n Q) := by
  by_cases h : boolOf (env t) = some b
  · rw [if_pos h]
    simp only [R, evalOps, wantedS, h, beq_self_eq_true]
  · rw [if_neg h]
    have : (boolOf (env t) == some b) = false := by simpa using h
    simp only [R, evalOps, wantedS, this]

theorem R_callq {d : Option Nat} {f : Nat} {xs : List O} {os : List SOper} {env : Nat → Reg} {m : Mem} {n : Nat} {Q : (Nat → Reg) → Mem → Nat → Prop}
    (h : Fn T f (evOs env xs) (frz m) n (fun r _ _ => r.flat = true ∧ R T os (putE env d r) m n Q)) : R T (⟨d, .call .q f xs, none⟩ :: os) env m n Q := by
  obtain ⟨k1, r, m1, n1, h1, h2, k2, e, m', n', h3, h4⟩ := h
  refine ⟨max k1 k2, e, m', n', ?_, h4⟩
  simp only [evalOps, wantedS, evalOp, doCall]
  rw [run_mono (Nat.le_max_left k1 k2) _ _ _ _ _ h1]
  simp only [h2, if_true]
  exact evalOps_mono (run_mono (Nat.le_max_right k1 k2)) h3

theorem R_callz {d : Option Nat} {g f : Nat} {xs : List O} {os : List SOper} {env : Nat → Reg} {m : Mem} {n : Nat} {Q : (Nat → Reg) → Mem → Nat → Prop} (hf : flats (evOs env xs) = true)
    (h : Fn T f (evOs env xs) (fun _ => none) g (fun r _ _ => r.flat = true ∧ R T os (putE env d r) m n Q)) : R T (⟨d, .call (.z g) f xs, none⟩ :: os) env m n Q := by
  obtain ⟨k1, r, m1, n1, h1, h2, k2, e, m', n', h3, h4⟩ := h
  refine ⟨max k1 k2, e, m', n', ?_, h4⟩
  simp only [evalOps, wantedS, evalOp, doCall, hf, if_true]
  rw [run_mono (Nat.le_max_left k1 k2) _ _ _ _ _ h1]
  simp only [h2, if_true]
  exact evalOps_mono (run_mono (Nat.le_max_right k1 k2)) h3

theorem R_callk {d : Option Nat} {f : Nat} {xs : List O} {os : List SOper} {env : Nat → Reg} {m : Mem} {n : Nat} {Q : (Nat → Reg) → Mem → Nat → Prop}
    (h : Fn T f (evOs env xs) (frz m) n (fun r m' n' => R T os (putE env d r) (unfrz m n m') (max n n') Q)) : R T (⟨d, .call .k f xs, none⟩ :: os) env m n Q := by
  obtain ⟨k1, r, m1, n1, h1, k2, e, m', n', h3, h4⟩ := h
  refine ⟨max k1 k2, e, m', n', ?_, h4⟩
  simp only [evalOps, wantedS, evalOp, doCall]
  rw [run_mono (Nat.le_max_left k1 k2) _ _ _ _ _ h1]
  exact evalOps_mono (run_mono (Nat.le_max_right k1 k2)) h3

theorem R_callw {d : Option Nat} {f : Nat} {xs : List O} {os : List SOper} {env : Nat → Reg} {m : Mem} {n : Nat} {Q : (Nat → Reg) → Mem → Nat → Prop}
    (h : Fn T f (evOs env xs) m n (fun r m' n' => R T os (putE env d r) m' n' Q)) : R T (⟨d, .call .w f xs, none⟩ :: os) env m n Q := by
  obtain ⟨k1, r, m1, n1, h1, k2, e, m', n', h3, h4⟩ := h
  refine ⟨max k1 k2, e, m', n', ?_, h4⟩
  simp only [evalOps, wantedS, evalOp, doCall]
  rw [run_mono (Nat.le_max_left k1 k2) _ _ _ _ _ h1]
  exact evalOps_mono (run_mono (Nat.le_max_right k1 k2)) h3

theorem R_callv {d : Option Nat} {md : Mode} {x : O} {f : Nat} {caps : List Cell} {xs : List O} {os : List SOper} {env : Nat → Reg} {m : Mem} {n : Nat} {Q : (Nat → Reg) → Mem → Nat → Prop} (hx : evO env x = .one (.clo f caps))
    (h : R T (⟨d, .call md f ((evOs env xs ++ caps.map Reg.one).map O.c), none⟩ :: os) env m n Q) : R T (⟨d, .callv md x xs, none⟩ :: os) env m n Q := by
  have hm : ∀ (rs : List Reg), evOs env (rs.map O.c) = rs := by
    intro rs
    induction rs with
    | nil => rfl
    | cons r rs ih => simp [evOs, evO, ih]
  obtain ⟨k, e, m', n', h1, h2⟩ := h
  refine ⟨k, e, m', n', ?_, h2⟩
  simp only [evalOps, wantedS, evalOp, hm] at h1 ⊢
  rw [hx]
  exact h1

/-! ### code -/
theorem X_skip {s : St} {Q : Ex → St → Prop} : X T .skip s Q = Q .n s := by
  apply propext
  constructor
  · rintro ⟨k, e, s', h1, h2⟩
    simp only [exec, Option.some.injEq, Prod.mk.injEq] at h1
    obtain ⟨rfl, rfl⟩ := h1
    exact h2
  · intro h; exact ⟨0, .n, s, rfl, h⟩
theorem X_exit {id : Nat} {s : St} {Q : Ex → St → Prop} : X T (.exit id) s Q = Q (.x id) s := by
  apply propext
  constructor
  · rintro ⟨k, e, s', h1, h2⟩
    simp only [exec, Option.some.injEq, Prod.mk.injEq] at h1
    obtain ⟨rfl, rfl⟩ := h1
    exact h2
  · intro h; exact ⟨0, _, s, rfl, h⟩
theorem X_ret {s : St} {Q : Ex → St → Prop} : X T .ret s Q = Q .r s := by
  apply propext
  constructor
  · rintro ⟨k, e, s', h1, h2⟩
    simp only [exec, Option.some.injEq, Prod.mk.injEq] at h1
    obtain ⟨rfl, rfl⟩ := h1
    exact h2
  · intro h; exact ⟨0, _, s, rfl, h⟩
theorem X_reg {os : List SOper} {s : St} {Q : Ex → St → Prop} : X T (.reg os) s Q = R T os s.e s.m s.n (fun e m n => Q .n ⟨e, m, n⟩) := by
  apply propext
  constructor
  · rintro ⟨k, e, s', h1, h2⟩
    simp only [exec] at h1
    split at h1
    case h_2 => cases h1
    rename_i e1 m1 n1 h3
    cases h1
    exact ⟨k, e1, m1, n1, h3, h2⟩
  · rintro ⟨k, e, m', n', h1, h2⟩
    exact ⟨k, .n, ⟨e, m', n'⟩, by simp only [exec, h1], h2⟩

theorem X_dreg {dis : List (Nat × Nat)} {os : List SOper} {s : St} {Q : Ex → St → Prop} : X T (.dreg dis os) s Q = R T os s.e s.m s.n (fun e m n => disOk e dis = true ∧ Q .n ⟨e, m, n⟩) := by
  apply propext
  constructor
  · rintro ⟨k, e, s', h1, h2⟩
    simp only [exec] at h1
    split at h1
    case h_2 => cases h1
    rename_i e1 m1 n1 h3
    split at h1
    case isFalse => cases h1
    rename_i hd
    cases h1
    exact ⟨k, e1, m1, n1, h3, hd, h2⟩
  · rintro ⟨k, e, m', n', h1, hd, h2⟩
    exact ⟨k, .n, ⟨e, m', n'⟩, by simp only [exec, h1, hd, if_true], h2⟩

/-- What comes behind code. -/
def Next (Q : Ex → St → Prop) (K : St → Prop) : Ex → St → Prop
  | .n, s => K s
  | e, s => Q e s
theorem X_ureg {es : List Nat} {dis : List (Nat × Nat)} {os : List SOper} {s : St} {Q : Ex → St → Prop} : X T (.ureg es dis os) s Q = R T os s.e s.m s.n (fun e m n => (disOk e dis = true ∧ safeOk s.m e es = true) ∧ Q .n ⟨e, m, n⟩) := by
  apply propext
  constructor
  · rintro ⟨k, e, s', h1, h2⟩
    simp only [exec] at h1
    split at h1
    case h_2 => cases h1
    rename_i e1 m1 n1 h3
    split at h1
    case isFalse => cases h1
    rename_i hd
    cases h1
    exact ⟨k, e1, m1, n1, h3, hd, h2⟩
  · rintro ⟨k, e, m', n', h1, hd, h2⟩
    exact ⟨k, .n, ⟨e, m', n'⟩, by simp only [exec, h1, hd, and_self, if_true], h2⟩

theorem X_preg {j f : Nat} {args : List O} {dis : List (Nat × Nat)} {os : List SOper} {s : St} {Q : Ex → St → Prop} (h : Fn T f (evOs s.e args) (frz s.m) s.n (fun r _ n' => (r.flat = true ∨ n' = s.n) ∧ X T (.dreg dis (setOp os j (.mv (.c r)))) s Q)) : X T (.preg j f args dis os) s Q := by
  obtain ⟨k1, r, m1, n1, h1, hf, k2, e, s', h2, h3⟩ := h
  refine ⟨max k1 k2, e, s', ?_, h3⟩
  simp only [exec] at h2 ⊢
  rw [run_mono (Nat.le_max_left k1 k2) _ _ _ _ _ h1]
  simp only
  rw [if_pos hf]
  split at h2
  case h_2 => cases h2
  rename_i e1 m2 n2 h4
  rw [evalOps_mono (run_mono (Nat.le_max_right k1 k2)) h4]
  exact h2

theorem X_pureg {j f : Nat} {args : List O} {es : List Nat} {dis : List (Nat × Nat)} {os : List SOper} {s : St} {Q : Ex → St → Prop} (h : R T (os.take j) s.e s.m s.n (fun e1 _ _ => safeOk s.m e1 (usesOs args) = true ∧ Fn T f (evOs e1 args) (frz s.m) s.n (fun r _ _ => r.flat = true ∧ X T (.ureg es dis (setOp os j (.pre r args))) s Q))) : X T (.pureg j f args es dis os) s Q := by
  obtain ⟨k0, e1, m9, n9, h9, hs, k1, r, m1, n1, h1, hf, k2, e, s', h2, h3⟩ := h
  refine ⟨max k0 (max k1 k2), e, s', ?_, h3⟩
  simp only [exec] at h2 ⊢
  rw [evalOps_mono (run_mono (Nat.le_max_left k0 _)) h9]
  simp only
  rw [run_mono (Nat.le_trans (Nat.le_max_left k1 k2) (Nat.le_max_right k0 _)) _ _ _ _ _ h1]
  simp only
  rw [if_pos ⟨hf, hs⟩]
  split at h2
  case h_2 => cases h2
  rename_i e2 m2 n2 h4
  rw [evalOps_mono (run_mono (Nat.le_trans (Nat.le_max_right k1 k2) (Nat.le_max_right k0 _))) h4]
  exact h2

theorem Next_n {Q : Ex → St → Prop} {K : St → Prop} {s : St} : Next Q K .n s = K s := rfl
theorem Next_x {Q : Ex → St → Prop} {K : St → Prop} {s : St} {id : Nat} : Next Q K (.x id) s = Q (.x id) s := rfl
theorem Next_r {Q : Ex → St → Prop} {K : St → Prop} {s : St} : Next Q K .r s = Q .r s := rfl

theorem X_seq {a b : SC} {s : St} {Q : Ex → St → Prop} : X T (.seq a b) s Q = X T a s (Next Q (fun s' => X T b s' Q)) := by
  apply propext
  constructor
  · rintro ⟨k, e, s', h1, h2⟩
    simp only [exec] at h1
    cases h3 : exec (run T k) k a s with
    | none => rw [h3] at h1; cases h1
    | some y =>
      obtain ⟨e1, s1⟩ := y
      rw [h3] at h1
      cases e1 with
      | n => exact ⟨k, .n, s1, h3, k, e, s', h1, h2⟩
      | x id => cases h1; exact ⟨k, _, _, h3, h2⟩
      | r => cases h1; exact ⟨k, _, _, h3, h2⟩
  · rintro ⟨k1, e1, s1, h1, h2⟩
    cases e1 with
    | n =>
      obtain ⟨k2, e, s', h3, h4⟩ := h2
      refine ⟨max k1 k2, e, s', ?_, h4⟩
      simp only [exec]
      rw [exec_mono (run_mono (Nat.le_max_left k1 k2)) (Nat.le_max_left k1 k2) h1]
      exact exec_mono (run_mono (Nat.le_max_right k1 k2)) (Nat.le_max_right k1 k2) h3
    | x id => exact ⟨k1, _, s1, by simp only [exec]; rw [h1], h2⟩
    | r => exact ⟨k1, _, s1, by simp only [exec]; rw [h1], h2⟩

theorem X_cond {c : O} {a b : SC} {s : St} {Q : Ex → St → Prop} {t : Bool} (hc : evO s.e c = .one (.sc (.bool t))) : X T (.cond c a b) s Q = if t = true then X T a s Q else X T b s Q := by
  cases t <;> simp [X, exec, hc]

/-- What leaves a block. -/
def Out (id : Nat) (Q : Ex → St → Prop) : Ex → St → Prop
  | .x i, s => if i = id then Q .n s else Q (.x i) s
  | e, s => Q e s
theorem Out_n {Q : Ex → St → Prop} {id : Nat} {s : St} : Out id Q .n s = Q .n s := rfl
theorem Out_x {Q : Ex → St → Prop} {id i : Nat} {s : St} : Out id Q (.x i) s = if i = id then Q .n s else Q (.x i) s := rfl
theorem Out_r {Q : Ex → St → Prop} {id : Nat} {s : St} : Out id Q .r s = Q .r s := rfl

theorem X_block {id : Nat} {b : SC} {s : St} {Q : Ex → St → Prop} : X T (.block id b) s Q = X T b s (Out id Q) := by
  apply propext
  constructor
  · rintro ⟨k, e, s', h1, h2⟩
    simp only [exec] at h1
    cases h3 : exec (run T k) k b s with
    | none => rw [h3] at h1; cases h1
    | some y =>
      obtain ⟨e1, s1⟩ := y
      rw [h3] at h1
      cases e1 with
      | n => cases h1; exact ⟨k, _, _, h3, h2⟩
      | x i =>
        simp only at h1
        split at h1
        · rename_i hi; cases h1; exact ⟨k, _, _, h3, by rw [Out_x, if_pos hi]; exact h2⟩
        · rename_i hi; cases h1; exact ⟨k, _, _, h3, by rw [Out_x, if_neg hi]; exact h2⟩
      | r => cases h1; exact ⟨k, _, _, h3, h2⟩
  · rintro ⟨k, e, s', h1, h2⟩
    cases e with
    | n => exact ⟨k, .n, s', by simp only [exec]; rw [h1], h2⟩
    | x i =>
      rw [Out_x] at h2
      split at h2
      · rename_i hi; exact ⟨k, .n, s', by simp only [exec]; rw [h1]; simp [hi], h2⟩
      · rename_i hi; exact ⟨k, .x i, s', by simp only [exec]; rw [h1]; simp [hi], h2⟩
    | r => exact ⟨k, .r, s', by simp only [exec]; rw [h1], h2⟩

theorem X_loop {b : SC} {s : St} {Q : Ex → St → Prop} (h : X T b s (Next Q (fun s' => X T (.loop b) s' Q))) : X T (.loop b) s Q := by
  obtain ⟨k1, e1, s1, h1, h2⟩ := h
  cases e1 with
  | n =>
    obtain ⟨k2, e, s', h3, h4⟩ := h2
    refine ⟨max k1 k2 + 1, e, s', ?_, h4⟩
    have e1 := exec_mono (run_mono (show k1 ≤ max k1 k2 + 1 by omega)) (show k1 ≤ max k1 k2 + 1 by omega) h1
    simp only [exec] at h3 ⊢
    simp only [iter, e1]
    have key : ∀ (j1 j2 : Nat) (s : St), j1 ≤ j2 → iter (exec (run T k2) k2 b) j1 s = some (e, s') → iter (exec (run T (max k1 k2 + 1)) (max k1 k2 + 1) b) j2 s = some (e, s') := by
      intro j1
      induction j1 with
      | zero => intro j2 s _ hi; simp [iter] at hi
      | succ j1 ihk =>
        intro j2 s hle hi
        obtain ⟨j2, rfl⟩ : ∃ k, j2 = k + 1 := ⟨j2 - 1, by omega⟩
        simp only [iter] at hi ⊢
        cases h5 : exec (run T k2) k2 b s with
        | none => rw [h5] at hi; cases hi
        | some y =>
          rw [exec_mono (run_mono (show k2 ≤ max k1 k2 + 1 by omega)) (show k2 ≤ max k1 k2 + 1 by omega) h5]
          rw [h5] at hi
          obtain ⟨e, s'⟩ := y
          cases e with
          | n => exact ihk j2 s' (by omega) hi
          | x id => exact hi
          | r => exact hi
    exact key k2 (max k1 k2) s1 (by omega) h3
  | x id => exact ⟨k1 + 1, _, s1, by
      simp only [exec]
      rw [iter, exec_mono (run_mono (Nat.le_succ k1)) (Nat.le_succ k1) h1], h2⟩
  | r => exact ⟨k1 + 1, _, s1, by
      simp only [exec]
      rw [iter, exec_mono (run_mono (Nat.le_succ k1)) (Nat.le_succ k1) h1], h2⟩

/-- The rounds of a range over path.walk. -/
def WLoop (T : Nat → Option SFun) (nd p1 p2 : Nat) (a b : SC) (e : Nat → Reg) (fb id off : Nat) (Q : Mem → Nat → Prop) : Nat → Nat → Mem → Nat → Prop
  | 0, _, m, n => Q m n
  | k + 1, i, m, n => ∃ cs fr, rd m id (off + i * 7) 7 = some cs ∧ rd m fb 0 2 = some fr ∧
      X T (.seq a b) ⟨upd (upd e p1 (.agg fr)) p2 (.agg cs), upd m n (some ⟨cs, true⟩), n + 1⟩ (fun ex s2 => ex = .n ∧ ∃ c d, (s2.m n).bind (·.cells[0]?) = some c ∧ (∃ tb, s2.m 0 = some tb ∧ tb.cells.all Cell.flat = true ∧ c.flat = true ∧ Fn T nd [.one c] (tabM tb.cells) 1 (fun r _ _ => r = .one (.sc (.int .i64 d)))) ∧
        ((d ≤ 0 ∧ WLoop T nd p1 p2 a b e fb id off Q k (i + 1) s2.m s2.n) ∨
         (0 < d ∧ d ≤ 3 ∧ ∃ q m3, rd s2.m n (1 + (d.toNat - 1) * 2) 2 = some q ∧ wr s2.m fb 0 q = some m3 ∧ WLoop T nd p1 p2 a b e fb id off Q k (i + 1) m3 s2.n)))
theorem WLoop_go {nd p1 p2 : Nat} {a b : SC} {e : Nat → Reg} {fb id off : Nat} {Q : Mem → Nat → Prop} : ∀ (k i : Nat) (m : Mem) (n : Nat), WLoop T nd p1 p2 a b e fb id off Q k i m n →
    ∃ K m' n', walkGo (run T K) nd (walkB (exec (run T K) K a) (exec (run T K) K b) e p1 p2) fb id off k i m n = some (m', n') ∧ Q m' n'
  | 0, i, m, n, h => ⟨0, m, n, rfl, h⟩
  | k + 1, i, m, n, h => by
    obtain ⟨cs, fr, h1, h2, K1, ex, s2, h3, rfl, c, d, h4, ⟨tb, ht1, ht2, ht3, K2, r, m2, n2, h5, rfl⟩, h6⟩ := h
    have hB : ∀ K, K1 ≤ K → walkB (exec (run T K) K a) (exec (run T K) K b) e p1 p2 fr cs (upd m n (some ⟨cs, true⟩)) (n + 1) = some (s2.m, s2.n) := by
      intro K hK
      unfold walkB
      simp only [exec] at h3
      cases ha : exec (run T K1) K1 a ⟨upd (upd e p1 (.agg fr)) p2 (.agg cs), upd m n (some ⟨cs, true⟩), n + 1⟩ with
      | none => rw [ha] at h3; cases h3
      | some y =>
        obtain ⟨e1, s1⟩ := y
        rw [ha] at h3
        cases e1 with
        | n =>
          rw [exec_mono (run_mono hK) hK ha]
          simp only at h3 ⊢
          rw [exec_mono (run_mono hK) hK h3]
        | x id => cases h3
        | r => cases h3
    have hN : ∀ K, K2 ≤ K → doCall (run T K) .t nd [.one c] s2.m s2.n = some (.one (.sc (.int .i64 d)), s2.m, s2.n) := by
      intro K hK
      simp only [doCall, ht1]
      rw [if_pos ⟨by simp [flats, Reg.flat, ht3], ht2⟩, run_mono hK _ _ _ _ _ h5]
      rfl
    rcases h6 with ⟨hd, hw⟩ | ⟨hd, hd3, q, m3, hq, hm3, hw⟩
    · obtain ⟨K3, m', n', h7, h8⟩ := WLoop_go k (i + 1) s2.m s2.n hw
      refine ⟨max K1 (max K2 K3), m', n', ?_, h8⟩
      simp only [walkGo, h1, h2]
      rw [hB _ (by omega)]
      simp only [h4]
      rw [hN _ (by omega)]
      simp only
      rw [if_neg (by omega)]
      refine walkGo_mono (run_mono (show K3 ≤ _ by omega)) (fun fr cs m n y hy => ?_) _ _ _ _ _ h7
      unfold walkB at hy ⊢
      split at hy
      case h_2 => cases hy
      rename_i s1 g1
      rw [exec_mono (run_mono (show K3 ≤ max K1 (max K2 K3) by omega)) (by omega) g1]
      simp only
      split at hy
      case h_2 => cases hy
      rename_i s3 g2
      rw [exec_mono (run_mono (show K3 ≤ max K1 (max K2 K3) by omega)) (by omega) g2]
      exact hy
    · obtain ⟨K3, m', n', h7, h8⟩ := WLoop_go k (i + 1) m3 s2.n hw
      refine ⟨max K1 (max K2 K3), m', n', ?_, h8⟩
      simp only [walkGo, h1, h2]
      rw [hB _ (by omega)]
      simp only [h4]
      rw [hN _ (by omega)]
      simp only
      rw [if_pos hd, if_pos hd3, hq]
      simp only [hm3]
      refine walkGo_mono (run_mono (show K3 ≤ _ by omega)) (fun fr cs m n y hy => ?_) _ _ _ _ _ h7
      unfold walkB at hy ⊢
      split at hy
      case h_2 => cases hy
      rename_i s1 g1
      rw [exec_mono (run_mono (show K3 ≤ max K1 (max K2 K3) by omega)) (by omega) g1]
      simp only
      split at hy
      case h_2 => cases hy
      rename_i s3 g2
      rw [exec_mono (run_mono (show K3 ≤ max K1 (max K2 K3) by omega)) (by omega) g2]
      exact hy
theorem X_walk {fi nd p1 p2 bx id off len : Nat} {x : O} {a b : SC} {s : St} {Q : Ex → St → Prop} {c : Cell} (hx : evO s.e x = .one (.clo fi [.ptr bx 0])) (hb : (s.m bx).bind (·.cells[0]?) = some c) (hs : segsOf c = some (id, off, len))
    (h : WLoop T nd p1 p2 a b s.e s.n id off (fun m n => Q .n ⟨s.e, m, n⟩) len 0 (upd s.m s.n (some ⟨[zc, zc], true⟩)) (s.n + 1)) : X T (.walk fi nd p1 p2 x a b) s Q := by
  obtain ⟨K, m', n', h1, h2⟩ := WLoop_go _ _ _ _ h
  refine ⟨K, .n, ⟨s.e, m', n'⟩, ?_, h2⟩
  simp only [exec, hx, if_true, hb, hs]
  rw [h1]

/-- What a function's code must come to. -/
def Ret (rs : List SRes) (Q : Reg → Mem → Nat → Prop) : Ex → St → Prop
  | .x _, _ => False
  | _, s => ∃ regs, evRes s rs = some regs ∧ Q (pack regs) s.m s.n
theorem Ret_n {rs : List SRes} {Q : Reg → Mem → Nat → Prop} {s : St} : Ret rs Q .n s = ∃ regs, evRes s rs = some regs ∧ Q (pack regs) s.m s.n := rfl
theorem Ret_r {rs : List SRes} {Q : Reg → Mem → Nat → Prop} {s : St} : Ret rs Q .r s = ∃ regs, evRes s rs = some regs ∧ Q (pack regs) s.m s.n := rfl

theorem Fn_of {f : Nat} {fn : SFun} {a : List Reg} {m : Mem} {n : Nat} {Q : Reg → Mem → Nat → Prop} (hT : T f = some fn) (hl : a.length ≤ fn.nt)
    (h : X T fn.body ⟨fun t => a.getD t (.tup []), m, n⟩ (Ret fn.res Q)) : Fn T f a m n Q := by
  obtain ⟨k, e, s', h1, h2⟩ := h
  cases e with
  | n =>
    obtain ⟨regs, h3, h4⟩ := h2
    refine ⟨k + 1, pack regs, s'.m, s'.n, ?_, h4⟩
    simp only [run, hT, if_pos hl, h1, h3]
  | x id => exact h2.elim
  | r =>
    obtain ⟨regs, h3, h4⟩ := h2
    refine ⟨k + 1, pack regs, s'.m, s'.n, ?_, h4⟩
    simp only [run, hT, if_pos hl, h1, h3]

/-- What was reckoned. -/
theorem Fn_run {f : Nat} {a : List Reg} {m : Mem} {n k : Nat} {x : Reg × Mem × Nat} {Q : Reg → Mem → Nat → Prop} (h : run T k f a m n = some x) (hQ : Q x.1 x.2.1 x.2.2) : Fn T f a m n Q := ⟨k, x.1, x.2.1, x.2.2, h, hQ⟩
end
end Go.Proofs.Ytkdbnmohpanpfaa.Sy
