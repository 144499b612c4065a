/- An evaluator of a part of Go's operations over a memory of its own, part twelve: a region whose order is drawn. Conditions: those that each theorem names. -/
import Derived.Test.YtkdbnmohpanpfaaSyK
namespace Go.Proofs.Ytkdbnmohpanpfaa.Sy
open Go
set_option linter.unusedVariables false
set_option linter.unusedSimpArgs false

inductive Kind where
  | p | l | mild | hard
  deriving DecidableEq

def kindOf : SOp → Kind
  | .load1 _ | .loadA _ _ | .slA .. => .l
  | .alloc _ | .box _ | .bslice .. | .mkslice .. => .mild
  | .call .q _ _ | .call .k _ _ | .callv .q _ _ | .callv .k _ _ | .call .t _ _ | .callv .t _ _ => .mild
  | .call .w _ _ | .callv .w _ _ | .store .. | .app .. | .appz .. | .cpy .. | .clr .. => .hard
  | _ => .p

def usesO : O → List Nat
  | .t k => [k]
  | _ => []
def usesOs (xs : List O) : List Nat := xs.flatMap usesO
def usesP (xs : List (Nat × Nat × O)) : List Nat := xs.flatMap fun x => usesO x.2.2
def usesOo : Option O → List Nat
  | none => []
  | some x => usesO x

def uses : SOp → List Nat
  | .mv x | .box x | .load1 x | .loadA _ x | .nilchk x | .eqnil _ _ x | .un _ x | .conv _ x | .fadr _ x | .fld _ _ _ x | .ext x _ | .istr _ x | .len x | .cap x | .clr _ _ x => usesO x
  | .pick c a b => usesO c ++ usesO a ++ usesO b
  | .alloc _ | .lenC _ | .stuck => []
  | .build _ ps | .bslice _ _ _ ps => usesP ps
  | .store _ x v | .bin _ x v | .beq _ x v | .eqv _ _ x v | .iadrA _ _ x v | .iadrS _ x v | .idxA _ _ _ x v | .app _ _ x v | .appz _ _ _ x v | .cpy _ x v | .mkslice _ _ _ x v => usesO x ++ usesO v
  | .mkfn _ xs | .pre _ xs | .mn xs | .mx xs | .call _ _ xs | .carry _ xs => usesOs xs
  | .callv _ x xs => usesO x ++ usesOs xs
  | .slS _ x a b c | .slA _ _ x a b c => usesO x ++ usesOo a ++ usesOo b ++ usesOo c

section
variable {env env2 : Nat → Reg}
theorem evO_congr {x : O} (h : ∀ t ∈ usesO x, env t = env2 t) : evO env x = evO env2 x := by
  cases x with
  | t k => exact h k (by simp [usesO])
  | _ => rfl
theorem evOs_congr : ∀ {xs : List O}, (∀ t ∈ usesOs xs, env t = env2 t) → evOs env xs = evOs env2 xs
  | [], _ => rfl
  | x :: xs, h => by
    simp only [usesOs, List.flatMap_cons, List.mem_append] at h
    simp only [evOs]
    rw [evO_congr (fun t ht => h t (Or.inl ht)), evOs_congr (fun t ht => h t (Or.inr ht))]
theorem fillC_congr : ∀ {ps : List (Nat × Nat × O)} {l : List Cell}, (∀ t ∈ usesP ps, env t = env2 t) → fillC env l ps = fillC env2 l ps
  | [], l, _ => rfl
  | (a, b, x) :: ps, l, h => by
    simp only [usesP, List.flatMap_cons, List.mem_append] at h
    simp only [fillC]
    rw [evO_congr (fun t ht => h t (Or.inl ht))]
    split
    · split
      · exact fillC_congr (fun t ht => h t (Or.inr ht))
      · rfl
    · rfl
theorem evOo_congr {x : Option O} (h : ∀ t ∈ usesOo x, env t = env2 t) : x.map (evO env) = x.map (evO env2) := by
  cases x with
  | none => rfl
  | some x => simp only [Option.map_some]; rw [evO_congr h]

theorem evalOp_congr {call : Callf} {m : Mem} {n : Nat} {so : SOp} (h : ∀ t ∈ uses so, env t = env2 t) : evalOp call env m n so = evalOp call env2 m n so := by
  cases so with
  | eqnil k neg x =>
    simp only [uses] at h
    match k with
    | 0 => simp only [evalOp]; rw [evO_congr h]
    | 1 => simp only [evalOp]; rw [evO_congr h]
    | 2 => simp only [evalOp]; rw [evO_congr h]
    | k + 3 => simp only [evalOp]
  | _ =>
    simp only [uses, List.mem_append] at h
    simp only [evalOp] <;> first
      | rw [evO_congr h]
      | rw [evOs_congr h]
      | rw [fillC_congr h]
      | rw [evO_congr (fun t ht => h t (Or.inl ht)), evO_congr (fun t ht => h t (Or.inr ht))]
      | rw [evO_congr (fun t ht => h t (Or.inl (Or.inl ht))), evO_congr (fun t ht => h t (Or.inl (Or.inr ht))), evO_congr (fun t ht => h t (Or.inr ht))]
      | rw [evO_congr (fun t ht => h t (Or.inl ht)), evOs_congr (fun t ht => h t (Or.inr ht))]
      | rw [evO_congr (fun t ht => h t (Or.inl (Or.inl (Or.inl ht)))), evOo_congr (fun t ht => h t (Or.inl (Or.inl (Or.inr ht)))), evOo_congr (fun t ht => h t (Or.inl (Or.inr ht))), evOo_congr (fun t ht => h t (Or.inr ht))]
      | rfl
end

section
variable {call : Callf} {env : Nat → Reg} {m m' : Mem} {n n' : Nat} {so : SOp} {r : Reg}
theorem kind_p (hk : kindOf so = .p) (h : evalOp call env m n so = some (r, m', n')) : m' = m ∧ n' = n ∧ ∀ m2 n2, evalOp call env m2 n2 so = some (r, m2, n2) := by
  cases so with
  | eqnil k neg x =>
    match k with
    | 0 => simp only [evalOp] at h ⊢; split at h <;> first | (cases h; done) | (rename_i hh; cases h; simp [hh])
    | 1 => simp only [evalOp] at h ⊢; split at h <;> first | (cases h; done) | (rename_i hh; cases h; simp [hh])
    | 2 => simp only [evalOp] at h ⊢; split at h <;> first | (cases h; done) | (rename_i hh; cases h; simp [hh])
    | k + 3 => simp only [evalOp] at h; cases h
  | stuck => simp [evalOp] at h
  | pre r0 xs => simp only [evalOp] at h ⊢; cases h; simp
  | carry sub xs =>
    simp only [evalOp] at h ⊢
    obtain ⟨q, h1, h2⟩ := Option.map_eq_some_iff.1 h
    cases h2
    simp [h1]
  | call md f xs =>
    cases md <;> first | (simp [kindOf] at hk; done) | skip
    rename_i g
    simp only [evalOp, doCall] at h ⊢
    split at h
    case isFalse => cases h
    rename_i hf
    split at h
    case h_2 => cases h
    rename_i r1 m1 n1 h1
    split at h
    case isFalse => cases h
    rename_i h2
    cases h
    simp [hf, h1, h2]
  | callv md f xs =>
    cases md <;> first | (simp [kindOf] at hk; done) | skip
    rename_i g
    simp only [evalOp, doCall] at h ⊢
    split at h
    case h_2 => cases h
    rename_i f caps hp
    split at h
    case isFalse => cases h
    rename_i hf
    split at h
    case h_2 => cases h
    rename_i r1 m1 n1 h1
    split at h
    case isFalse => cases h
    rename_i h2
    cases h
    simp [hp, hf, h1, h2]
  | fld off size ag x =>
    simp only [evalOp] at h ⊢
    split at h
    case h_2 => cases h
    rename_i cs hh
    split at h
    case isFalse => cases h
    rename_i h2
    cases ag
    · simp only [Bool.false_eq_true, if_false] at h
      obtain ⟨c, h3, h4⟩ := Option.map_eq_some_iff.1 h
      cases h4
      simp [hh, h2, h3]
    · simp only [if_true] at h
      cases h
      simp [hh, h2]
  | idxA len sz ag x i =>
    simp only [evalOp] at h ⊢
    split at h
    case h_2 => cases h
    rename_i cs k hh hi
    split at h
    case isFalse => cases h
    rename_i h2
    cases ag
    · simp only [Bool.false_eq_true, if_false] at h
      obtain ⟨c, h3, h4⟩ := Option.map_eq_some_iff.1 h
      cases h4
      simp [hh, hi, h2, h3]
    · simp only [if_true] at h
      cases h
      simp [hh, hi, h2]
  | slS sz x lo hi mx =>
    simp only [evalOp] at h ⊢
    split at h
    · rename_i hh
      split at h
      case isFalse => cases h
      rename_i hz
      obtain ⟨c, h3, h4⟩ := Option.map_eq_some_iff.1 h
      cases h4
      simp [hh, hz, h3]
    · rename_i hh
      obtain ⟨c, h3, h4⟩ := Option.map_eq_some_iff.1 h
      cases h4
      simp [hh, h3]
    · cases h
  | iadrA len sz x i =>
    simp only [evalOp] at h ⊢
    split at h
    case h_2 => cases h
    rename_i hh hi
    split at h
    case isFalse => cases h
    rename_i h2
    cases h
    simp [hh, hi, h2]
  | iadrS sz x i =>
    simp only [evalOp] at h ⊢
    split at h
    case h_2 => cases h
    rename_i hh hi
    split at h
    case isFalse => cases h
    rename_i h2
    cases h
    simp [hh, hi, h2]
  | mv x => simp only [evalOp] at h ⊢; cases h; simp
  | lenC x => simp only [evalOp] at h ⊢; cases h; simp
  | pick c a b => simp only [evalOp] at h ⊢; split at h <;> first | (cases h; done) | (rename_i hh; cases h; simp [hh])
  | nilchk x => simp only [evalOp] at h ⊢; split at h <;> first | (cases h; done) | (rename_i hh; cases h; simp [hh])
  | conv k x => simp only [evalOp] at h ⊢; split at h <;> first | (cases h; done) | (rename_i hh; cases h; simp [hh])
  | mkfn f x => simp only [evalOp] at h ⊢; split at h <;> first | (cases h; done) | (rename_i hh; cases h; simp [hh])
  | fadr o x => simp only [evalOp] at h ⊢; split at h <;> first | (cases h; done) | (rename_i hh; cases h; simp [hh])
  | len x => simp only [evalOp] at h ⊢; split at h <;> first | (cases h; done) | (rename_i hh; cases h; simp [hh])
  | cap x => simp only [evalOp] at h ⊢; split at h <;> first | (cases h; done) | (rename_i hh; cases h; simp [hh])
  | beq g x y => simp only [evalOp] at h ⊢; split at h <;> first | (cases h; done) | (rename_i hh hi; cases h; simp [hh, hi])
  | build z ps =>
    simp only [evalOp] at h ⊢
    obtain ⟨c, h3, h4⟩ := Option.map_eq_some_iff.1 h
    cases h4
    simp [h3]
  | bin op x y =>
    simp only [evalOp] at h ⊢
    split at h
    case h_2 => cases h
    rename_i hh hi
    obtain ⟨c, h3, h4⟩ := Option.map_eq_some_iff.1 h
    cases h4
    simp [hh, hi, h3]
  | eqv ks g x y =>
    simp only [evalOp] at h ⊢
    split at h
    case h_2 => cases h
    rename_i hh hi
    obtain ⟨c, h3, h4⟩ := Option.map_eq_some_iff.1 h
    cases h4
    simp [hh, hi, h3]
  | un op x =>
    simp only [evalOp] at h ⊢
    split at h
    case h_2 => cases h
    rename_i hh
    obtain ⟨c, h3, h4⟩ := Option.map_eq_some_iff.1 h
    cases h4
    simp [hh, h3]
  | istr l x =>
    simp only [evalOp] at h ⊢
    split at h
    case h_2 => cases h
    rename_i hh
    split at h
    case isFalse => cases h
    rename_i h5
    obtain ⟨c, h3, h4⟩ := Option.map_eq_some_iff.1 h
    cases h4
    simp [hh, h3, h5]
  | ext x i =>
    simp only [evalOp] at h ⊢
    split at h
    case h_2 => cases h
    rename_i hh
    obtain ⟨c, h3, h4⟩ := Option.map_eq_some_iff.1 h
    cases h4
    simp [hh, h3]
  | mn xs =>
    simp only [evalOp] at h ⊢
    split at h
    case h_2 => cases h
    rename_i hh
    obtain ⟨c, h3, h4⟩ := Option.map_eq_some_iff.1 h
    cases h4
    simp [hh, h3]
  | mx xs =>
    simp only [evalOp] at h ⊢
    split at h
    case h_2 => cases h
    rename_i hh
    obtain ⟨c, h3, h4⟩ := Option.map_eq_some_iff.1 h
    cases h4
    simp [hh, h3]
  | _ => simp [kindOf] at hk

/-- The number that a read looks at. -/
def lookAt (env : Nat → Reg) : SOp → Option Nat
  | .load1 x | .loadA _ x | .slA _ _ x _ _ _ => match evO env x with
    | .one (.ptr id _) => some id
    | _ => none
  | _ => none

theorem kind_l (hk : kindOf so = .l) (h : evalOp call env m n so = some (r, m', n')) : m' = m ∧ n' = n ∧ ∃ id b, lookAt env so = some id ∧ m id = some b ∧ ∀ (m2 : Mem) n2, m2 id = m id → evalOp call env m2 n2 so = some (r, m2, n2) := by
  cases so with
  | call md f xs => cases md <;> simp [kindOf] at hk
  | callv md f xs => cases md <;> simp [kindOf] at hk
  | load1 x =>
    simp only [evalOp] at h ⊢
    split at h
    case h_2 => cases h
    rename_i id off hp
    split at h
    case h_2 => cases h
    rename_i b hb
    split at h
    case h_2 => cases h
    rename_i c hc
    cases h
    refine ⟨rfl, rfl, id, b, by simp [lookAt, hp], hb, fun m2 n2 he => ?_⟩
    simp [hp, he, hb, hc]
  | loadA k x =>
    simp only [evalOp] at h ⊢
    split at h
    case h_2 => cases h
    rename_i id off hp
    obtain ⟨c, h3, h4⟩ := Option.map_eq_some_iff.1 h
    cases h4
    cases hb : m id with
    | none => simp [rd, hb] at h3
    | some b =>
      refine ⟨rfl, rfl, id, b, by simp [lookAt, hp], hb, fun m2 n2 he => ?_⟩
      have : rd m2 id off k = rd m id off k := by simp [rd, he, hb]
      simp [hp, this, h3]
  | slA len sz x lo hi mx =>
    simp only [evalOp] at h ⊢
    split at h
    case h_2 => cases h
    rename_i id off hp
    split at h
    case h_2 => cases h
    rename_i b hb
    split at h
    case isFalse => cases h
    rename_i hle
    obtain ⟨c, h3, h4⟩ := Option.map_eq_some_iff.1 h
    cases h4
    refine ⟨rfl, rfl, id, b, by simp [lookAt, hp], hb, fun m2 n2 he => ?_⟩
    simp [hp, he, hb, hle, h3]
  | _ => simp [kindOf] at hk

theorem kind_mild (hk : kindOf so = .mild) (h : evalOp call env m n so = some (r, m', n')) : n ≤ n' ∧ ∀ id, id < n → m' id = m id := by
  have hu : ∀ (x : Option Blk) id, id < n → upd m n x id = m id := fun x id hi => upd_ne _ _ (Nat.ne_of_lt hi)
  have hcall : ∀ {md : Mode} {f : Nat} {args : List Reg}, (md = .q ∨ md = .k ∨ md = .t) → doCall call md f args m n = some (r, m', n') → n ≤ n' ∧ ∀ id, id < n → m' id = m id := by
    intro md f args hw h
    unfold doCall at h
    cases md with
    | q =>
      simp only at h
      split at h
      case h_2 => cases h
      split at h
      case isFalse => cases h
      cases h
      exact ⟨Nat.le_refl _, fun _ _ => rfl⟩
    | k =>
      simp only at h
      split at h
      case h_2 => cases h
      cases h
      exact ⟨Nat.le_max_left _ _, fun id hi => by simp [unfrz, hi]⟩
    | w => simp at hw
    | t =>
      simp only at h
      split at h
      case h_2 => cases h
      split at h
      case isFalse => cases h
      split at h
      case h_2 => cases h
      split at h
      case isFalse => cases h
      cases h
      exact ⟨Nat.le_refl _, fun _ _ => rfl⟩
    | z g => simp at hw
  cases so with
  | call md f xs =>
    simp only [evalOp] at h
    cases md
    · exact hcall (md := .q) (Or.inl rfl) h
    · exact hcall (md := .k) (Or.inr (Or.inl rfl)) h
    · simp [kindOf] at hk
    · exact hcall (md := .t) (Or.inr (Or.inr rfl)) h
    · simp [kindOf] at hk
  | callv md x xs =>
    simp only [evalOp] at h
    split at h
    case h_2 => cases h
    cases md
    · exact hcall (md := .q) (Or.inl rfl) h
    · exact hcall (md := .k) (Or.inr (Or.inl rfl)) h
    · simp [kindOf] at hk
    · exact hcall (md := .t) (Or.inr (Or.inr rfl)) h
    · simp [kindOf] at hk
  | alloc z => simp only [evalOp] at h; cases h; exact ⟨Nat.le_succ _, hu _⟩
  | box x => simp only [evalOp] at h; split at h <;> first | (cases h; done) | (cases h; exact ⟨Nat.le_succ _, hu _⟩)
  | bslice z len sz ps =>
    simp only [evalOp] at h
    obtain ⟨c, h3, h4⟩ := Option.map_eq_some_iff.1 h
    cases h4
    exact ⟨Nat.le_succ _, hu _⟩
  | mkslice z b sz l c =>
    simp only [evalOp] at h
    split at h
    case h_2 => cases h
    split at h
    case isFalse => cases h
    cases h
    exact ⟨Nat.le_succ _, hu _⟩
  | _ => simp [kindOf] at hk
end

/-! ### what is asked of a region whose order is drawn -/
def usesS (so : SOper) : List Nat :=
  uses so.op ++ (match so.guard with
    | some (some t, _) => [t]
    | _ => [])

def isEff (so : SOper) : Bool := kindOf so.op == .mild || kindOf so.op == .hard

def inC (cl : List (List Nat)) (i j : Nat) : Bool := (cl.getD j []).contains i

/-- The variable in which an operation's address lies. -/
def addrT : SOp → Option Nat
  | .load1 (.t k) | .loadA _ (.t k) | .slA _ _ (.t k) _ _ _ | .store _ (.t k) _ | .app _ _ (.t k) _ => some k
  | _ => none
/-- A store or an append. -/
def isStore : SOp → Bool
  | .store .. | .app .. => true
  | _ => false
/-- A read and a store whose addresses are told apart. -/
def disC (dis : List (Nat × Nat)) (x y : SOp) : Bool :=
  isStore y && (match addrT x, addrT y with
    | some a, some b => dis.contains (a, b)
    | _, _ => false)

/-- Of two operations, the first ahead of the second. -/
def pairOk (us : List Nat) (dis : List (Nat × Nat)) (cl : List (List Nat)) (i : Nat) (x : SOper) (j : Nat) (y : SOper) : Bool :=
  -- one variable is written once
  (match x.dst with
   | some d => y.dst != some d && (!(usesS y).contains d || inC cl i j)
   | none => true) &&
  (match y.dst with
   | some d => !(usesS x).contains d || inC cl i j
   | none => true) &&
  (!(isEff x && isEff y) || inC cl i j || (us.contains i && us.contains j)) &&
  (!(kindOf x.op == .l && kindOf y.op == .hard) || inC cl i j || disC dis x.op y.op) &&
  (!(kindOf x.op == .hard && kindOf y.op == .l) || inC cl i j || disC dis y.op x.op) &&
  (match addrT x.op with
   | some t => y.dst != some t
   | none => true)

def pairsOk (us : List Nat) (dis : List (Nat × Nat)) (cl : List (List Nat)) (i : Nat) (x : SOper) : Nat → List SOper → Bool
  | _, [] => true
  | j, y :: ys => pairOk us dis cl i x j y && pairsOk us dis cl i x (j + 1) ys

/-- A read's address lies in a variable. -/
def lookT : SOp → Bool
  | .load1 (.t _) | .loadA _ (.t _) | .slA _ _ (.t _) _ _ _ => true
  | _ => false

theorem lookT_inv {env : Nat → Reg} {so : SOp} {id : Nat} (h : lookT so = true) (hl : lookAt env so = some id) : ∃ k off, k ∈ uses so ∧ env k = .one (.ptr id off) := by
  cases so with
  | load1 x =>
    cases x <;> simp only [lookT] at h <;> first | (cases h; done) | skip
    rename_i k
    simp only [lookAt, evO] at hl
    split at hl
    · rename_i id' off hp; cases hl; exact ⟨k, off, by simp [uses, usesO], hp⟩
    · cases hl
  | loadA q x =>
    cases x <;> simp only [lookT] at h <;> first | (cases h; done) | skip
    rename_i k
    simp only [lookAt, evO] at hl
    split at hl
    · rename_i id' off hp; cases hl; exact ⟨k, off, by simp [uses, usesO], hp⟩
    · cases hl
  | slA q1 q2 x q3 q4 q5 =>
    cases x <;> simp only [lookT] at h <;> first | (cases h; done) | skip
    rename_i k
    simp only [lookAt, evO] at hl
    split at hl
    · rename_i id' off hp; cases hl; exact ⟨k, off, by simp [uses, usesO], hp⟩
    · cases hl
  | _ => simp [lookT] at h

def allPairs (us : List Nat) (dis : List (Nat × Nat)) (cl : List (List Nat)) : Nat → List SOper → Bool
  | _, [] => true
  | i, x :: xs => ((kindOf x.op != .l || lookT x.op) && (match addrT x.op with | some t => x.dst != some t | none => true)) && pairsOk us dis cl i x (i + 1) xs && allPairs us dis cl (i + 1) xs

/-- The closure is one. -/
def clOk (cl : List (List Nat)) : Nat → List Oper → Bool
  | _, [] => true
  | j, o :: os => (o.after.toList.all fun e => !Region.binds .any e || decide (e.on < j)) &&
      ((cl.getD j []).all fun i => o.after.toList.any fun e => Region.binds .any e && (e.on == i || inC cl i e.on)) && clOk cl (j + 1) os

def dOk (us : List Nat) (dis : List (Nat × Nat)) (cl : List (List Nat)) (ops : Array Oper) (ss : List SOper) : Bool := clOk cl 0 ops.toList && allPairs us dis cl 0 ss

theorem pairsOk_get {us : List Nat} {dis : List (Nat × Nat)} {cl : List (List Nat)} {i : Nat} {x : SOper} : ∀ {ys : List SOper} {j0 : Nat}, pairsOk us dis cl i x j0 ys = true → ∀ k y, ys[k]? = some y → pairOk us dis cl i x (j0 + k) y = true
  | [], _, _, k, y, h => by simp at h
  | z :: ys, j0, h, 0, y, hy => by
    simp only [pairsOk, Bool.and_eq_true] at h
    simp only [List.getElem?_cons_zero, Option.some.injEq] at hy
    subst hy
    exact h.1
  | z :: ys, j0, h, k + 1, y, hy => by
    simp only [pairsOk, Bool.and_eq_true] at h
    have := pairsOk_get h.2 k y (by simpa using hy)
    rwa [Nat.add_assoc, Nat.add_comm 1 k] at this

theorem allPairs_get {us : List Nat} {dis : List (Nat × Nat)} {cl : List (List Nat)} : ∀ {xs : List SOper} {i0 : Nat}, allPairs us dis cl i0 xs = true → ∀ i j x y, i < j → xs[i]? = some x → xs[j]? = some y → pairOk us dis cl (i0 + i) x (i0 + j) y = true
  | [], _, _, i, j, x, y, _, h, _ => by simp at h
  | z :: xs, i0, h, i, j, x, y, hij, hx, hy => by
    simp only [allPairs, Bool.and_eq_true] at h
    obtain ⟨j, rfl⟩ : ∃ k, j = k + 1 := ⟨j - 1, by omega⟩
    cases i with
    | zero =>
      simp only [List.getElem?_cons_zero, Option.some.injEq] at hx
      subst hx
      have := pairsOk_get h.1.2 j y (by simpa using hy)
      rwa [Nat.add_assoc, Nat.add_comm 1 j] at this
    | succ i =>
      have := allPairs_get h.2 i j x y (by omega) (by simpa using hx) (by simpa using hy)
      rwa [Nat.add_assoc, Nat.add_comm 1 i, Nat.add_assoc, Nat.add_comm 1 j] at this

theorem allPairs_look {us : List Nat} {dis : List (Nat × Nat)} {cl : List (List Nat)} : ∀ {xs : List SOper} {i0 : Nat}, allPairs us dis cl i0 xs = true → ∀ (i : Nat) (x : SOper), xs[i]? = some x → (kindOf x.op = .l → lookT x.op = true) ∧ (∀ t, addrT x.op = some t → x.dst ≠ some t)
  | [], _, _, i, x, h => by simp at h
  | z :: xs, i0, h, 0, x, hx => by
    simp only [allPairs, Bool.and_eq_true, Bool.or_eq_true, bne_iff_ne, ne_eq] at h
    simp only [List.getElem?_cons_zero, Option.some.injEq] at hx
    subst hx
    refine ⟨fun hk => h.1.1.1.resolve_left (fun h' => h' hk), fun t ht => ?_⟩
    have := h.1.1.2
    rw [ht] at this
    simpa using this
  | z :: xs, i0, h, i + 1, x, hx => by
    simp only [allPairs, Bool.and_eq_true] at h
    exact allPairs_look h.2 i x (by simpa using hx)

theorem clOk_get {cl : List (List Nat)} : ∀ {os : List Oper} {j0 : Nat}, clOk cl j0 os = true → ∀ j o, os[j]? = some o →
    (∀ e ∈ o.after.toList, Region.binds .any e = true → e.on < j0 + j) ∧ (∀ i ∈ cl.getD (j0 + j) [], ∃ e ∈ o.after.toList, Region.binds .any e = true ∧ (e.on = i ∨ inC cl i e.on = true))
  | [], _, _, j, o, h => by simp at h
  | z :: os, j0, h, 0, o, ho => by
    simp only [clOk, Bool.and_eq_true, List.all_eq_true, List.any_eq_true, Bool.or_eq_true, Bool.not_eq_true', decide_eq_true_eq, beq_iff_eq] at h
    simp only [List.getElem?_cons_zero, Option.some.injEq] at ho
    subst ho
    refine ⟨fun e he hb => ?_, fun i hi => ?_⟩
    · rcases h.1.1 e he with h1 | h1
      · rw [hb] at h1; cases h1
      · simpa using h1
    · obtain ⟨e, h1, h2, h3⟩ := h.1.2 i (by simpa using hi)
      exact ⟨e, h1, h2, h3⟩
  | z :: os, j0, h, j + 1, o, ho => by
    simp only [clOk, Bool.and_eq_true] at h
    have := clOk_get h.2 j o (by simpa using ho)
    rwa [Nat.add_assoc, Nat.add_comm 1 j] at this

def idOf : Reg → Option Nat
  | .one (.ptr i _) => some i
  | .one (.sl i _ _ _ _) => some i
  | _ => none
def noId : Reg → Bool
  | .one (.sc (.slice none 0 0)) => true
  | _ => false
theorem noId_idOf {r : Reg} (h : noId r = true) : idOf r = none := by
  unfold noId at h
  split at h
  · rfl
  · cases h

/-- The addresses lie in different blocks. -/
def disOk (env : Nat → Reg) (dis : List (Nat × Nat)) : Bool :=
  dis.all fun p => noId (env p.2) || match idOf (env p.1), idOf (env p.2) with
    | some i, some j => i != j
    | _, _ => false

theorem wr_else {m m1 : Mem} {id off : Nat} {cs : List Cell} (h1 : wr m id off cs = some m1) {id' : Nat} (hne : id' ≠ id) : m1 id' = m id' := by
  unfold wr at h1
  split at h1
  case h_2 => cases h1
  split at h1
  case isFalse => cases h1
  cases h1
  exact upd_ne _ _ hne
theorem store_id {call : Callf} {env : Nat → Reg} {m m' : Mem} {n n' : Nat} {so : SOp} {r : Reg} {t : Nat} (hs : isStore so = true) (ht : addrT so = some t) (h : evalOp call env m n so = some (r, m', n')) :
    n ≤ n' ∧ ∀ id, idOf (env t) ≠ some id → id < n → m' id = m id := by
  cases so <;> simp only [isStore] at hs <;> first | (cases hs; done) | skip
  · rename_i k x v
    cases x <;> simp only [addrT] at ht <;> first | (cases ht; done) | skip
    cases ht
    simp only [evalOp, evO] at h
    split at h
    case h_2 => cases h
    rename_i id off cs hp hc
    split at h
    case isFalse => cases h
    obtain ⟨m1, h1, h2⟩ := Option.map_eq_some_iff.1 h
    cases h2
    refine ⟨Nat.le_refl _, fun id' hne _ => ?_⟩
    rw [hp] at hne
    exact wr_else h1 (fun e => hne (by rw [e]; rfl))
  · rename_i sz bytes x v
    cases x <;> simp only [addrT] at ht <;> first | (cases ht; done) | skip
    cases ht
    simp only [evalOp, evO] at h
    unfold evApp at h
    split at h
    · cases h
    split at h
    · split at h
      · cases h; exact ⟨Nat.le_refl _, fun _ _ _ => rfl⟩
      · split at h
        · cases h; exact ⟨Nat.le_succ _, fun _ _ h => upd_ne _ _ (Nat.ne_of_lt h)⟩
        · cases h
    · rename_i hp
      rw [hp]
      split at h
      case isFalse => cases h
      split at h
      · split at h
        · split at h
          · cases h; exact ⟨Nat.le_refl _, fun _ _ _ => rfl⟩
          · obtain ⟨m1, h1, h2⟩ := Option.map_eq_some_iff.1 h
            cases h2
            exact ⟨Nat.le_refl _, fun id' hne _ => wr_else h1 (fun e => hne (by rw [e]; rfl))⟩
        · obtain ⟨m1, h1, h2⟩ := Option.map_eq_some_iff.1 h
          cases h2
          exact ⟨Nat.le_succ _, fun _ _ h => upd_ne _ _ (Nat.ne_of_lt h)⟩
      · split at h
        · split at h
          · obtain ⟨m1, h1, h2⟩ := Option.map_eq_some_iff.1 h
            cases h2
            exact ⟨Nat.le_succ _, fun id' hne hlt => by rw [upd_ne _ _ (Nat.ne_of_lt hlt), upd_ne _ _ (fun e => hne (by rw [e]; rfl))]⟩
          · cases h
        · cases h
    · cases h

theorem look_id {env : Nat → Reg} {so : SOp} {t id : Nat} (ht : addrT so = some t) (hl : lookAt env so = some id) : idOf (env t) = some id := by
  cases so with
  | load1 x =>
    cases x <;> simp only [addrT] at ht <;> first | (cases ht; done) | skip
    cases ht
    simp only [lookAt, evO] at hl
    split at hl
    · rename_i id' off hp; cases hl; rw [hp]; rfl
    · cases hl
  | loadA q x =>
    cases x <;> simp only [addrT] at ht <;> first | (cases ht; done) | skip
    cases ht
    simp only [lookAt, evO] at hl
    split at hl
    · rename_i id' off hp; cases hl; rw [hp]; rfl
    · cases hl
  | slA q1 q2 x q3 q4 q5 =>
    cases x <;> simp only [addrT] at ht <;> first | (cases ht; done) | skip
    cases ht
    simp only [lookAt, evO] at hl
    split at hl
    · rename_i id' off hp; cases hl; rw [hp]; rfl
    · cases hl
  | _ => simp [lookAt] at hl
end Go.Proofs.Ytkdbnmohpanpfaa.Sy
