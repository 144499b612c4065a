/- An evaluator of a part of Go's operations over a memory of its own, part fourteen: code and functions. Conditions: those that each theorem names. -/
import Derived.Test.YtoakdmjpbachdaaSyU
import Derived.LoopN
namespace Go.Proofs.Ytoakdmjpbachdaa.Sy
open Go
set_option linter.unusedVariables false
set_option linter.unusedSimpArgs false

inductive SC where
  | skip
  | reg (os : List SOper)
  | dreg (dis : List (Nat × Nat)) (os : List SOper)
  | ureg (es : List Nat) (dis : List (Nat × Nat)) (os : List SOper)
  | seq (a b : SC)
  | cond (c : O) (a b : SC)
  | block (id : Nat) (b : SC)
  | loop (b : SC)
  | exit (id : Nat)
  | ret

inductive Ex where
  | n
  | x (id : Nat)
  | r

structure St where
  e : Nat → Reg
  m : Mem
  n : Nat

def iter (f : St → Option (Ex × St)) : Nat → St → Option (Ex × St)
  | 0, _ => none
  | k + 1, s => match f s with
    | some (.n, s') => iter f k s'
    | r => r

def exec (call : Callf) (K : Nat) : SC → St → Option (Ex × St)
  | .skip, s => some (.n, s)
  | .reg os, s => match evalOps call os s.e s.m s.n with
    | some (e, m, n) => some (.n, ⟨e, m, n⟩)
    | none => none
  | .dreg dis os, s => match evalOps call os s.e s.m s.n with
    | some (e, m, n) => if disOk e dis then some (.n, ⟨e, m, n⟩) else none
    | none => none
  | .ureg es dis os, s => match evalOps call os s.e s.m s.n with
    | some (e, m, n) => if disOk e dis = true ∧ safeOk s.m e es = true then some (.n, ⟨e, m, n⟩) else none
    | none => none
  | .seq a b, s => match exec call K a s with
    | some (.n, s') => exec call K b s'
    | r => r
  | .cond c a b, s => match evO s.e c with
    | .one (.sc (.bool t)) => (match t with | true => exec call K a s | false => exec call K b s)
    | _ => none
  | .block id b, s => match exec call K b s with
    | some (.x i, s') => if i = id then some (.n, s') else some (.x i, s')
    | r => r
  | .loop b, s => iter (exec call K b) K s
  | .exit id, s => some (.x id, s)
  | .ret, s => some (.r, s)

inductive SRes where
  | tmp (t : Nat)
  | cell1 (t : Nat)
  | cellA (t n : Nat)

structure SFun where
  nt : Nat
  body : SC
  res : List SRes

def evRes (s : St) : List SRes → Option (List Reg)
  | [] => some []
  | .tmp t :: rs => (evRes s rs).map (s.e t :: ·)
  | .cell1 t :: rs => match s.e t with
    | .one (.ptr id off) => match s.m id with
      | some b => match b.cells[off]? with
        | some c => (evRes s rs).map (.one c :: ·)
        | none => none
      | none => none
    | _ => none
  | .cellA t k :: rs => match s.e t with
    | .one (.ptr id off) => match rd s.m id off k with
      | some cs => (evRes s rs).map (.agg cs :: ·)
      | none => none
    | _ => none

def pack : List Reg → Reg
  | [r] => r
  | rs => .tup rs

def run (T : Nat → Option SFun) : Nat → Callf
  | 0 => fun _ _ _ _ => none
  | k + 1 => fun f args m n =>
    match T f with
    | none => none
    | some fn =>
      if args.length ≤ fn.nt then
        match exec (run T k) k fn.body ⟨fun t => args.getD t (.tup []), m, n⟩ with
        | some (.n, s) | some (.r, s) => match evRes s fn.res with
          | some rs => some (pack rs, s.m, s.n)
          | none => none
        | _ => none
      else none

/-! ### slimming -/
def dstsOk (N : Nat) : List SOper → Bool
  | [] => true
  | s :: ss => (match s.dst with
    | some d => decide (d < N)
    | none => true) && dstsOk N ss

/-- The constant allocs ahead of all that acts otherwise. -/
def usGo : Nat → List SOper → List Nat
  | _, [] => []
  | i, s :: ss => if (allocOf s).isSome then i :: usGo (i + 1) ss else if isEff s then [] else usGo (i + 1) ss
def esGo (us : List Nat) (cl : List (List Nat)) : Nat → List SOper → List Nat
  | _, [] => []
  | j, s :: ss => (match s.dst with
    | some d => if us.contains j || us.all (fun u => inC cl u j) then [] else [d]
    | none => []) ++ esGo us cl (j + 1) ss

def slimC (P : Program) (ng : Nat) (md : Nat → Mode) (cls : Nat → List (List Nat) × List (Nat × Nat)) (N : Nat) : Code → Option SC
  | .skip => some .skip
  | .region id ops d => match slimOpers P ng md ops ops.toList with
    | some ss => if dstsOk N ss && (!d || dOk [] (cls id).2 (cls id).1 ops ss) then (match d, (cls id).2 with
      | true, x :: xs => some (.dreg (x :: xs) ss)
      | _, _ => some (.reg ss))
      else if dstsOk N ss && d && dOk (usGo 0 ss) (cls id).2 (cls id).1 ops ss && uOk (usGo 0 ss) (esGo (usGo 0 ss) (cls id).1 0 ss) (cls id).1 ss && !(usGo 0 ss).isEmpty then some (.ureg (esGo (usGo 0 ss) (cls id).1 0 ss) (cls id).2 ss) else none
    | none => none
  | .seq a b => match slimC P ng md cls N a, slimC P ng md cls N b with
    | some x, some y => some (.seq x y)
    | _, _ => none
  | .cond c a b => match slimO ng c, slimC P ng md cls N a, slimC P ng md cls N b with
    | some z, some x, some y => some (.cond z x y)
    | _, _, _ => none
  | .block id b => (slimC P ng md cls N b).map (.block id)
  | .loop b => (slimC P ng md cls N b).map .loop
  | .exit id => some (.exit id)
  | .ret => some .ret
  | _ => none

def slimRes (P : Program) : List ResultVar → Option (List SRes)
  | [] => some []
  | .tmp t :: rs => (slimRes P rs).map (.tmp t :: ·)
  | .cell a t :: rs => match tagg P t, tsz P t, slimRes P rs with
    | some true, some s, some xs => some (.cellA a s :: xs)
    | some false, some _, some xs => some (.cell1 a :: xs)
    | _, _, _ => none

def slimF (P : Program) (ng : Nat) (md : Nat → Mode) (cls : Nat → List (List Nat) × List (Nat × Nat)) (fn : Func) : Option SFun :=
  if fn.name == "runtime.NumGoroutine" then none else
  match fn.body with
  | none => none
  | some c => match slimC P ng md cls fn.ntmps c, slimRes P fn.results.toList with
    | some sc, some rs => some ⟨fn.ntmps, sc, rs⟩
    | _, _ => none

/-! ### soundness -/
def toExit : Ex → Exit
  | .n => .normal
  | .x id => .exit id
  | .r => .ret

section
variable {P : Program} {ng N : Nat} {md : Nat → Mode} {cls : Nat → List (List Nat) × List (Nat × Nat)} {call : Callf}

theorem slimOpers_get {ops : Array Oper} : ∀ {os : List Oper} {ss : List SOper}, slimOpers P ng md ops os = some ss → ss.length = os.length ∧ ∀ (i : Nat) (so : SOper), ss[i]? = some so → ∃ o, os[i]? = some o ∧ slimOper P ng md ops o = some so
  | [], ss, h => by simp only [slimOpers, Option.some.injEq] at h; subst h; exact ⟨rfl, fun i so h => by simp at h⟩
  | o :: os, ss, h => by
    simp only [slimOpers] at h
    split at h
    case h_2 => cases h
    rename_i s ss' h1 h2
    cases h
    obtain ⟨h3, h4⟩ := slimOpers_get h2
    refine ⟨by simp [h3], fun i so hi => ?_⟩
    cases i with
    | zero => simp only [List.getElem?_cons_zero, Option.some.injEq] at hi; subst hi; exact ⟨o, rfl, h1⟩
    | succ i => simpa using h4 i so (by simpa using hi)

theorem dstsOk_get : ∀ {ss : List SOper}, dstsOk N ss = true → ∀ (i : Nat) (so : SOper), ss[i]? = some so → ∀ d, so.dst = some d → d < N
  | [], _, i, so, h, _, _ => by simp at h
  | s :: ss, h, i, so, hi, d, hd => by
    simp only [dstsOk, Bool.and_eq_true] at h
    cases i with
    | zero =>
      simp only [List.getElem?_cons_zero, Option.some.injEq] at hi
      subst hi
      have := h.1
      simpa [hd] using this
    | succ i => exact dstsOk_get h.2 i so (by simpa using hi) d hd

theorem region_sound (hcall : CallOK P ng call) (hmix : P.follows .mixedOrders = true) {id : Nat} {ops : Array Oper} {d : Bool} {ss : List SOper} {Q : Exit → Act → World → Prop}
    (hs : slimOpers P ng md ops ops.toList = some ss) (hN : dstsOk N ss = true) {dis : List (Nat × Nat)} {cl : List (List Nat)} (hd : d = true → dOk [] dis cl ops ss = true) {env env' : Nat → Reg} {m m' : Mem} {n n' : Nat} {ρ : Loc} {a : Act} {w : World}
    (hG : Good N ng ρ n w env m a) (hev : evalOps call ss env m n = some (env', m', n')) (hdis : d = true → disOk env' dis = true)
    (hQ : ∀ ρ' a' w', Step ρ n w m ρ' n' w' m' → Good N ng ρ' n' w' env' m' a' → a'.defers = a.defers → Q .normal a' w') : (Code.region id ops d).wp P Q a w := by
  obtain ⟨hl, hg⟩ := slimOpers_get hs
  have hM : ∀ (i : Nat) (so : SOper), ss[i]? = some so → Matches P ng N md ops i so := fun i so hi => by
    obtain ⟨o, h1, h2⟩ := hg i so hi
    exact ⟨o, by simpa using h1, h2, fun dd hdd => dstsOk_get hN i so hi dd hdd⟩
  cases d with
  | false =>
    refine wp_region (wpOps_sound (md := md) hcall (List.range ops.size) ss env env' m m' n n' ρ a w (by simp [hl]) (fun j i so h1 h2 => ?_) hG hev hQ)
    have hj : i = j := by
      have := List.getElem?_eq_some_iff.1 h1
      obtain ⟨h3, h4⟩ := this
      simp at h4
      exact h4.symm
    subst hj
    exact hM i so h2
  | true =>
    have hlen : ss.length = ops.size := by simpa using hl
    have hc := chk_of (hd rfl) hlen
    obtain ⟨E, M, C, R, e1, e2, e3, e4, e5, e6, e7⟩ := trace ss _ _ _ _ _ _ hev
    have hdr := Step.drew hG.mem
    refine wp_region_any hmix ?_
    subst e1; subst e2; subst e3; subst e4; subst e5; subst e6
    refine wpAny_ok (us := []) (P := P) (ng := ng) (N := N) (md := md) (cl := cl) (ss := ss) hcall hc hM (ρ0 := ρ) (w0 := w.drew) (d0 := a.defers) e7 (hdis rfl) ?_ ops.size _ a w.drew ?_ ?_
    · intro ρ' a' w' h1 h2 h3
      exact hQ ρ' a' w' (hdr.trans h1) h2 h3
    · unfold left
      rw [← hlen]
      exact Nat.le_trans List.countP_le_length (by simp)
    · have hno : ∀ i, ¬ Lst (Array.replicate ops.size false) i := by
        intro i
        unfold Lst
        simp only [Array.getD_eq_getD_getElem?]
        by_cases h : i < ops.size <;> simp [h]
      refine ⟨by simp [hlen], fun j o h => absurd h (hno j), hG.size, rfl, (fun u hu => by cases hu), 0, ρ, Nat.zero_le _, fun i so _ _ => ⟨fun h => absurd h (hno i), fun h => by omega⟩, Step.refl hdr.rel, hG.glob, fun t => ⟨fun i so _ _ h => absurd h (hno i), fun _ => RRel.mono hdr.le _ _ (hG.env t)⟩, ?_⟩
      intro i hi id' b hb
      have : i = 0 := by omega
      subst this
      exact hG.mem.lt id' b hb

theorem region_soundU (hcall : CallOK P ng call) (hmix : P.follows .mixedOrders = true) {id : Nat} {ops : Array Oper} {ss : List SOper} {Q : Exit → Act → World → Prop}
    (hs : slimOpers P ng md ops ops.toList = some ss) (hN : dstsOk N ss = true) {us es : List Nat} {dis : List (Nat × Nat)} {cl : List (List Nat)} (hd : dOk us dis cl ops ss = true) (hu : uOk us es cl ss = true) (hne : us ≠ []) {env env' : Nat → Reg} {m m' : Mem} {n n' : Nat} {ρ : Loc} {a : Act} {w : World}
    (hG : Good N ng ρ n w env m a) (hev : evalOps call ss env m n = some (env', m', n')) (hdis : disOk env' dis = true) (hsafe : safeOk m env' es = true)
    (hQ : ∀ ρ' a' w', Step ρ n w m ρ' n' w' m' → Good N ng ρ' n' w' env' m' a' → a'.defers = a.defers → Q .normal a' w') : (Code.region id ops true).wp P Q a w := by
  obtain ⟨hl, hg⟩ := slimOpers_get hs
  have hM : ∀ (i : Nat) (so : SOper), ss[i]? = some so → Matches P ng N md ops i so := fun i so hi => by
    obtain ⟨o, h1, h2⟩ := hg i so hi
    exact ⟨o, by simpa using h1, h2, fun dd hdd => dstsOk_get hN i so hi dd hdd⟩
  have hlen : ss.length = ops.size := by simpa using hl
  have hc := chk_of hd hlen
  obtain ⟨E, M, C, R, e1, e2, e3, e4, e5, e6, e7⟩ := trace ss _ _ _ _ _ _ hev
  have hdr := Step.drew hG.mem
  refine wp_region_any hmix ?_
  subst e1; subst e2; subst e3; subst e4; subst e5; subst e6
  have hno : ∀ i, ¬ Lst (Array.replicate ops.size false) i := by
    intro i
    unfold Lst
    simp only [Array.getD_eq_getD_getElem?]
    by_cases h : i < ops.size <;> simp [h]
  refine wpAny_u (us := us) (es := es) (P := P) (ng := ng) (N := N) (md := md) (cl := cl) (ss := ss) hcall hc hM (ρ0 := ρ) (w0 := w.drew) (d0 := a.defers) e7 hdis ?_ hu hsafe hdr.rel hG.glob ops.size _ a w.drew ?_ ?_ (fun j so _ _ _ => hno j) ?_
  · intro ρ' a' w' h1 h2 h3
    exact hQ ρ' a' w' (hdr.trans h1) h2 h3
  · unfold left
    rw [← hlen]
    exact Nat.le_trans List.countP_le_length (by simp)
  · cases us with
    | nil => exact absurd rfl hne
    | cons u us => exact ⟨u, by simp, hno u⟩
  · exact ⟨by simp [hlen], fun j o h => absurd h (hno j), hG.size, rfl, fun _ => 0, 0, ρ, M 0, Step.refl hdr.rel, hG.glob, fun _ _ => rfl, fun u _ h => absurd h (hno u), fun u _ _ _ h => absurd h (hno u), fun t => ⟨fun i so _ _ _ h => absurd h (hno i), fun _ => RRel.mono hdr.le _ _ (hG.env t)⟩⟩

theorem exec_sound (hcall : CallOK P ng call) (hmix : P.follows .mixedOrders = true) (K : Nat) : ∀ (c : Code) (sc : SC), slimC P ng md cls N c = some sc → ∀ (s s' : St) (e : Ex), exec call K sc s = some (e, s') →
    ∀ (ρ : Loc) (a : Act) (w : World) (Q : Exit → Act → World → Prop), Good N ng ρ s.n w s.e s.m a →
    (∀ ρ' a' w', Step ρ s.n w s.m ρ' s'.n w' s'.m → Good N ng ρ' s'.n w' s'.e s'.m a' → a'.defers = a.defers → Q (toExit e) a' w') → c.wp P Q a w := by
  intro c
  induction c with
  | skip =>
    intro sc hs s s' e he ρ a w Q hG hQ
    simp only [slimC, Option.some.injEq] at hs
    subst hs
    simp only [exec, Option.some.injEq, Prod.mk.injEq] at he
    obtain ⟨rfl, rfl⟩ := he
    exact wp_skip (hQ ρ a w (Step.refl hG.mem) hG rfl)
  | exit id =>
    intro sc hs s s' e he ρ a w Q hG hQ
    simp only [slimC, Option.some.injEq] at hs
    subst hs
    simp only [exec, Option.some.injEq, Prod.mk.injEq] at he
    obtain ⟨rfl, rfl⟩ := he
    exact wp_exit (hQ ρ a w (Step.refl hG.mem) hG rfl)
  | ret =>
    intro sc hs s s' e he ρ a w Q hG hQ
    simp only [slimC, Option.some.injEq] at hs
    subst hs
    simp only [exec, Option.some.injEq, Prod.mk.injEq] at he
    obtain ⟨rfl, rfl⟩ := he
    exact wp_ret (hQ ρ a w (Step.refl hG.mem) hG rfl)
  | region id ops d =>
    intro sc hs s s' e he ρ a w Q hG hQ
    simp only [slimC] at hs
    split at hs
    case h_2 => cases hs
    rename_i ss hss
    split at hs
    case isFalse =>
      split at hs
      case isFalse => cases hs
      rename_i hc
      simp only [Bool.and_eq_true, Bool.not_eq_true'] at hc
      obtain ⟨⟨⟨⟨h1, rfl⟩, h3⟩, h4⟩, h5⟩ := hc
      cases hs
      simp only [exec] at he
      split at he
      case h_2 => cases he
      rename_i e' m' n' hev
      split at he
      case isFalse => cases he
      rename_i hdis
      cases he
      exact region_soundU hcall hmix hss h1 h3 h4 (by intro h; rw [h] at h5; cases h5) hG hev hdis.1 hdis.2 hQ
    rename_i hc
    simp only [Bool.and_eq_true, Bool.or_eq_true, Bool.not_eq_true'] at hc
    have hd : d = true → dOk [] (cls id).2 (cls id).1 ops ss = true := fun hd => hc.2.resolve_left (by simp [hd])
    split at hs
    · rename_i x xs hx
      cases hs
      simp only [exec] at he
      split at he
      case h_2 => cases he
      rename_i e' m' n' hev
      split at he
      case isFalse => cases he
      rename_i hdis
      cases he
      exact region_sound hcall hmix hss hc.1 hd hG hev (fun _ => by rw [hx]; exact hdis) hQ
    · rename_i hx
      cases hs
      simp only [exec] at he
      split at he
      case h_2 => cases he
      rename_i e' m' n' hev
      cases he
      refine region_sound hcall hmix hss hc.1 hd hG hev (fun hdt => ?_) hQ
      cases hcl : (cls id).2 with
      | nil => rfl
      | cons x xs => exact absurd hcl (hx x xs hdt)
  | seq x y ihx ihy =>
    intro sc hs s s' e he ρ a w Q hG hQ
    simp only [slimC] at hs
    split at hs
    case h_2 => cases hs
    rename_i sx sy h1 h2
    cases hs
    simp only [exec] at he
    refine wp_seq ?_
    split at he
    · rename_i s1 h3
      refine ihx sx h1 s s1 .n h3 ρ a w _ hG (fun ρ' a' w' h4 h5 h6 => ?_)
      refine ihy sy h2 s1 s' e he ρ' a' w' Q h5 (fun ρ'' a'' w'' h7 h8 h9 => hQ ρ'' a'' w'' (h4.trans h7) h8 (h9.trans h6))
    · rename_i hne
      refine ihx sx h1 s s' e he ρ a w _ hG (fun ρ' a' w' h4 h5 h6 => ?_)
      cases e with
      | n => exact absurd he (hne s')
      | x id => exact hQ ρ' a' w' h4 h5 h6
      | r => exact hQ ρ' a' w' h4 h5 h6
  | cond c x y ihx ihy =>
    intro sc hs s s' e he ρ a w Q hG hQ
    simp only [slimC] at hs
    split at hs
    case h_2 => cases hs
    rename_i z sx sy h0 h1 h2
    cases hs
    simp only [exec] at he
    split at he
    case h_2 => cases he
    rename_i t ht
    have hv := evO_rel h0 hG.glob hG.env
    rw [ht] at hv
    have hv := sc_inv hv
    refine wp_cond hv ?_
    cases t
    · exact ihy sy h2 s s' e he ρ a w Q hG hQ
    · exact ihx sx h1 s s' e he ρ a w Q hG hQ
  | block id b ih =>
    intro sc hs s s' e he ρ a w Q hG hQ
    simp only [slimC] at hs
    obtain ⟨sb, h1, rfl⟩ := Option.map_eq_some_iff.1 hs
    simp only [exec] at he
    refine wp_block ?_
    split at he
    · rename_i i s1 h3
      refine ih sb h1 s s1 (.x i) h3 ρ a w _ hG (fun ρ' a' w' h4 h5 h6 => ?_)
      simp only [toExit, Exit.inBlock]
      split at he
      · rename_i hi
        cases he
        rw [if_pos hi]
        exact hQ ρ' a' w' h4 h5 h6
      · rename_i hi
        cases he
        rw [if_neg hi]
        exact hQ ρ' a' w' h4 h5 h6
    · rename_i hne
      refine ih sb h1 s s' e he ρ a w _ hG (fun ρ' a' w' h4 h5 h6 => ?_)
      cases e with
      | n => exact hQ ρ' a' w' h4 h5 h6
      | x i => exact absurd he (hne i s')
      | r => exact hQ ρ' a' w' h4 h5 h6
  | loop b ih =>
    intro sc hs s s' e he ρ a w Q hG hQ
    simp only [slimC] at hs
    obtain ⟨sb, h1, rfl⟩ := Option.map_eq_some_iff.1 hs
    simp only [exec] at he
    refine wp_loop_rounds K ?_
    have key : ∀ (k : Nat) (s : St) (ρ : Loc) (a : Act) (w : World), iter (exec call K sb) k s = some (e, s') → Good N ng ρ s.n w s.e s.m a →
        (∀ ρ' a' w', Step ρ s.n w s.m ρ' s'.n w' s'.m → Good N ng ρ' s'.n w' s'.e s'.m a' → a'.defers = a.defers → Q (toExit e) a' w') → Code.rounds P b Q k a w := by
      intro k
      induction k with
      | zero => intro s ρ a w hi; simp [iter] at hi
      | succ k ihk =>
        intro s ρ a w hi hG hQ
        simp only [iter] at hi
        rw [rounds_succ]
        split at hi
        · rename_i s1 h3
          refine ih sb h1 s s1 .n h3 ρ a w _ hG (fun ρ' a' w' h4 h5 h6 => ?_)
          exact ihk s1 ρ' a' w' hi h5 (fun ρ'' a'' w'' h7 h8 h9 => hQ ρ'' a'' w'' (h4.trans h7) h8 (h9.trans h6))
        · rename_i hne
          refine ih sb h1 s s' e hi ρ a w _ hG (fun ρ' a' w' h4 h5 h6 => ?_)
          cases e with
          | n => exact absurd hi (hne s')
          | x id => exact hQ ρ' a' w' h4 h5 h6
          | r => exact hQ ρ' a' w' h4 h5 h6
    exact key K s ρ a w he hG hQ
  | _ => intro sc hs; simp [slimC] at hs

def resF (tmps : Array Value) : ResultVar → Sem Value
  | .tmp t => pure (tmps.getD t undef)
  | .cell a t => do loadVar t (← asAddr (tmps.getD a undef))

theorem results_eq (fn : Func) (tmps : Array Value) : results fn tmps = (do let vs ← fn.results.mapM (resF tmps); pure (if h : vs.size = 1 then vs[0] else .tuple vs)) := by
  unfold results
  rfl

theorem results_rel : ∀ {rs : List ResultVar} {xs : List SRes} {s : St} {regs : List Reg} {ρ : Loc} {w : World} {a : Act}, slimRes P rs = some xs → evRes s xs = some regs → Good N ng ρ s.n w s.e s.m a →
    ∃ vs : List Value, (rs.mapM (resF a.tmps)).run P w = .ok vs w ∧ RRels ρ s.n w regs vs
  | [], xs, s, regs, ρ, w, a, hs, he, hG => by
    simp only [slimRes, Option.some.injEq] at hs
    subst hs
    simp only [evRes, Option.some.injEq] at he
    subst he
    exact ⟨[], rfl, by simp [RRels]⟩
  | .tmp t :: rs, xs, s, regs, ρ, w, a, hs, he, hG => by
    simp only [slimRes] at hs
    obtain ⟨ys, h1, rfl⟩ := Option.map_eq_some_iff.1 hs
    simp only [evRes] at he
    obtain ⟨rgs, h2, rfl⟩ := Option.map_eq_some_iff.1 he
    obtain ⟨vs, h3, h4⟩ := results_rel h1 h2 hG
    refine ⟨a.tmps.getD t undef :: vs, ?_, ?_⟩
    · have e1 : (resF a.tmps (.tmp t)).run P w = .ok (a.tmps.getD t undef) w := rfl
      simp only [List.mapM_cons, Sem.run_bind, e1, Sem.run_pure, Result.andThen_ok, h3]
    · simp only [RRels]; exact ⟨_, _, rfl, hG.env t, h4⟩
  | .cell x t :: rs, xs, s, regs, ρ, w, a, hs, he, hG => by
    simp only [slimRes] at hs
    split at hs
    · rename_i k ys hag hsz h1
      cases hs
      simp only [evRes] at he
      split at he
      case h_2 => cases he
      rename_i id off hp
      split at he
      case h_2 => cases he
      rename_i cs hc
      obtain ⟨rgs, h2, rfl⟩ := Option.map_eq_some_iff.1 he
      obtain ⟨vs, h3, h4⟩ := results_rel h1 h2 hG
      have h5 := hG.env x
      rw [hp] at h5
      obtain ⟨_, h6⟩ := ptr_inv h5
      obtain ⟨us, h7, h8, h9, h10⟩ := run_loadCells_rd (P := P) hG.mem hc
      refine ⟨.agg us.toArray :: vs, ?_, ?_⟩
      · have e1 : (resF a.tmps (.cell x t)).run P w = .ok (.agg us.toArray) w := by simp [resF, h6, asAddr, loadVar, run_isAgg_tagg hag, run_sizeOf_tsz hsz, h10]
        simp only [List.mapM_cons, Sem.run_bind, e1, Sem.run_pure, Result.andThen_ok, h3]
      · simp only [RRels, RRel]; exact ⟨_, _, rfl, ⟨us, rfl, h7⟩, h4⟩
    · rename_i k ys hag hsz h1
      cases hs
      simp only [evRes] at he
      split at he
      case h_2 => cases he
      rename_i id off hp
      split at he
      case h_2 => cases he
      rename_i b hb
      split at he
      case h_2 => cases he
      rename_i c hc
      obtain ⟨rgs, h2, rfl⟩ := Option.map_eq_some_iff.1 he
      obtain ⟨vs, h3, h4⟩ := results_rel h1 h2 hG
      have h5 := hG.env x
      rw [hp] at h5
      obtain ⟨_, h6⟩ := ptr_inv h5
      obtain ⟨v, h7, h8⟩ := hG.mem.cells id b hb off c hc
      refine ⟨v :: vs, ?_, ?_⟩
      · have e1 : (resF a.tmps (.cell x t)).run P w = .ok v w := by simp [resF, h6, asAddr, loadVar, run_isAgg_tagg hag, h7]
        simp only [List.mapM_cons, Sem.run_bind, e1, Sem.run_pure, Result.andThen_ok, h3]
      · simp only [RRels, RRel]; exact ⟨_, _, rfl, h8, h4⟩
    · cases hs

theorem pack_rel {regs : List Reg} {vs : List Value} {ρ : Loc} {n : Nat} {w : World} (h : RRels ρ n w regs vs) : RRel ρ n w (pack regs) (if h : vs.toArray.size = 1 then vs.toArray[0] else .tuple vs.toArray) := by
  have hl := RRels.length _ _ h
  match regs, h, hl with
  | [r], h, hl =>
    simp only [RRels] at h
    obtain ⟨v, us, rfl, h1, rfl⟩ := h
    simpa [pack] using h1
  | [], h, hl =>
    simp only [RRels] at h
    subst h
    simp only [pack, RRel]
    exact ⟨[], by simp, by simp [RRels]⟩
  | r1 :: r2 :: rs, h, hl =>
    have : ¬ vs.toArray.size = 1 := by simp at hl ⊢; omega
    rw [dif_neg this]
    simp only [pack, RRel]
    exact ⟨vs, rfl, h⟩

theorem run_ok {T : Nat → Option SFun} (hmix : P.follows .mixedOrders = true) {mds : Nat → Nat → Mode} {clss : Nat → Nat → List (List Nat) × List (Nat × Nat)}
    (hT : ∀ f sf, T f = some sf → ∃ fn, P.funcs[f]? = some fn ∧ slimF P ng (mds f) (clss f) fn = some sf) : ∀ k, CallOK P ng (run T k)
  | 0 => by intro f args m n r m' n' h; simp [run] at h
  | k + 1 => by
    intro f args m n r m' n' h ρ w vs hm hg hargs
    have hcall := run_ok hmix hT k
    simp only [run] at h
    split at h
    case h_1 => cases h
    rename_i sf hsf
    obtain ⟨fn, hfn, hsl⟩ := hT f sf hsf
    split at h
    case isFalse => cases h
    rename_i hlen
    unfold slimF at hsl
    split at hsl
    case isTrue => cases hsl
    rename_i hname
    split at hsl
    case h_1 => cases hsl
    rename_i c hbody
    split at hsl
    case h_2 => cases hsl
    rename_i sc rs h1 h2
    cases hsl
    refine ⟨⟨fn, hfn, by rw [hbody]; rfl, by simpa using hname⟩, ?_⟩
    simp only at h hlen
    have hl := RRels.length _ _ hargs
    have hev : ∃ (e : Ex) (s : St) (regs : List Reg), (e = .n ∨ e = .r) ∧ exec (run T k) k sc ⟨fun t => args.getD t (.tup []), m, n⟩ = some (e, s) ∧ evRes s rs = some regs ∧ r = pack regs ∧ m' = s.m ∧ n' = s.n := by
      split at h
      · rename_i s hs
        split at h
        case h_2 => cases h
        rename_i regs hr
        cases h
        exact ⟨_, s, regs, Or.inl rfl, hs, hr, rfl, rfl, rfl⟩
      · rename_i s hs
        split at h
        case h_2 => cases h
        rename_i regs hr
        cases h
        exact ⟨_, s, regs, Or.inr rfl, hs, hr, rfl, rfl, rfl⟩
      · cases h
    obtain ⟨e, s, regs, he, hs, hr, rfl, rfl, rfl⟩ := hev
    refine calls_of_wp hfn hbody ?_
    have hsz : (vs.toArray ++ Array.replicate (fn.ntmps - vs.toArray.size) undef).size = fn.ntmps := by simp; omega
    have hG : Good fn.ntmps ng ρ n w (fun t => args.getD t (.tup [])) m { tmps := vs.toArray ++ Array.replicate (fn.ntmps - vs.toArray.size) undef, defers := [] } := by
      refine ⟨hm, hg, fun t => ?_, hsz⟩
      rcases Nat.lt_or_ge t args.length with ht | ht
      · obtain ⟨v, h3, h4⟩ := RRels.get _ _ hargs t args[t] (List.getElem?_eq_getElem ht)
        have htv : t < vs.length := by omega
        simp only [List.getD_eq_getElem?_getD, List.getElem?_eq_getElem ht, Option.getD_some, Array.getD_eq_getD_getElem?]
        rw [Array.getElem?_append_left (by simpa using htv)]
        simpa [h3] using h4
      · simp only [List.getD_eq_getElem?_getD, List.getElem?_eq_none ht, Option.getD_none, Array.getD_eq_getD_getElem?]
        rw [Array.getElem?_append_right (by simp; omega)]
        have : ((Array.replicate (fn.ntmps - vs.toArray.size) undef)[t - vs.toArray.size]?).getD undef = undef := by
          by_cases hh : t - vs.toArray.size < fn.ntmps - vs.toArray.size
          · simp only [List.size_toArray] at hh; simp [hh]
          · simp only [List.size_toArray] at hh; simp [hh]
        rw [this]
        exact undef_rel
    refine exec_sound hcall hmix k c sc h1 _ s e hs ρ _ w _ hG (fun ρ' a' w' h3 h4 h5 => ?_)
    obtain ⟨us, h6, h7⟩ := results_rel h2 hr h4
    have hres : (results fn a'.tmps).run P w' = .ok (if h : us.toArray.size = 1 then us.toArray[0] else .tuple us.toArray) w' := by
      rw [results_eq, Array.mapM_eq_mapM_toList]
      simp [h6]
    rcases he with rfl | rfl <;> exact ⟨h5, _, hres, _, ρ', rfl, h3, pack_rel h7⟩
end
end Go.Proofs.Ytoakdmjpbachdaa.Sy
