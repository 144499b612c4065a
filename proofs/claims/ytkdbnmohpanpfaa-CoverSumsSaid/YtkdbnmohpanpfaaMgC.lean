import Derived.Test.YtkdbnmohpanpfaaMgB
import Derived.Sort.AssemblyPlain
import Derived.Lib.BitFns
/- An evaluator of a part of Go's operations over a memory of its own, part fourteen: code and functions. Conditions: those that each theorem names. -/
namespace Go.Proofs.Ytkdbnmohpanpfaa.Sy
open Go
set_option linter.unusedVariables false
set_option linter.unusedSimpArgs false

inductive SC where
  | skip
  | reg (os : List SOper)
  | dreg (dis : List (Nat × Nat)) (os : List SOper)
  | ureg (es : List Nat) (dis : List (Nat × Nat)) (os : List SOper)
  | preg (j f : Nat) (args : List O) (dis : List (Nat × Nat)) (os : List SOper)
  | pureg (j f : Nat) (args : List O) (es : List Nat) (dis : List (Nat × Nat)) (os : List SOper)
  | seq (a b : SC)
  | cond (c : O) (a b : SC)
  | block (id : Nat) (b : SC)
  | loop (b : SC)
  | exit (id : Nat)
  | ret
  | walk (fi nd p1 p2 : Nat) (x : O) (a b : SC)

/-- No range over a function in it. -/
def noWalk : SC → Bool
  | .seq a b | .cond _ a b => noWalk a && noWalk b
  | .block _ b | .loop b => noWalk b
  | .walk .. => false
  | _ => true

inductive Ex where
  | n
  | x (id : Nat)
  | r

structure St where
  e : Nat → Reg
  m : Mem
  n : Nat

def iter (f : St → Option (Ex × St)) : Nat → St → Option (Ex × St)
  | 0, _ => none
  | k + 1, s => match f s with
    | some (.n, s') => iter f k s'
    | r => r

/-- One operation is another one. -/
def setOp : List SOper → Nat → SOp → List SOper
  | [], _, _ => []
  | o :: os, 0, op => ⟨o.dst, op, none⟩ :: os
  | o :: os, j + 1, op => o :: setOp os j op

def zc : Cell := .sc (.int .i64 0)
/-- Where a slice of records of seven cells lies. -/
def segsOf : Cell → Option (Nat × Nat × Nat)
  | .sc (.slice none 0 0) => some (0, 0, 0)
  | .sl id off len _ 7 => if len ≤ 4294967296 then some (id, off, len) else none
  | _ => none
/-- What path.walk's function does with a body B: the point ahead lies in block fb; each segment is copied into a block of its own. -/
def walkGo (call : Callf) (nd : Nat) (B : List Cell → List Cell → Mem → Nat → Option (Mem × Nat)) (fb id off : Nat) : Nat → Nat → Mem → Nat → Option (Mem × Nat)
  | 0, _, m, n => some (m, n)
  | k + 1, i, m, n =>
    match rd m id (off + i * 7) 7, rd m fb 0 2 with
    | some cs, some fr =>
      match B fr cs (upd m n (some ⟨cs, true⟩)) (n + 1) with
      | some (m1, n1) =>
        match (m1 n).bind (·.cells[0]?) with
        | some c =>
          match doCall call .t nd [.one c] m1 n1 with
          | some (.one (.sc (.int .i64 d)), _, _) =>
            if 0 < d then
              if d ≤ 3 then
                match rd m1 n (1 + (d.toNat - 1) * 2) 2 with
                | some q => match wr m1 fb 0 q with
                  | some m3 => walkGo call nd B fb id off k (i + 1) m3 n1
                  | none => none
                | none => none
              else none
            else walkGo call nd B fb id off k (i + 1) m1 n1
          | _ => none
        | none => none
      | none => none
    | _, _ => none

/-- A round's body. -/
def walkB (A B : St → Option (Ex × St)) (e : Nat → Reg) (p1 p2 : Nat) (fr cs : List Cell) (m : Mem) (n : Nat) : Option (Mem × Nat) :=
  match A ⟨upd (upd e p1 (.agg fr)) p2 (.agg cs), m, n⟩ with
  | some (.n, s1) => (match B s1 with
    | some (.n, s2) => some (s2.m, s2.n)
    | _ => none)
  | _ => none

def exec (call : Callf) (K : Nat) : SC → St → Option (Ex × St)
  | .skip, s => some (.n, s)
  | .reg os, s => match evalOps call os s.e s.m s.n with
    | some (e, m, n) => some (.n, ⟨e, m, n⟩)
    | none => none
  | .dreg dis os, s => match evalOps call os s.e s.m s.n with
    | some (e, m, n) => if disOk e dis then some (.n, ⟨e, m, n⟩) else none
    | none => none
  | .ureg es dis os, s => match evalOps call os s.e s.m s.n with
    | some (e, m, n) => if disOk e dis = true ∧ safeOk s.m e es = true then some (.n, ⟨e, m, n⟩) else none
    | none => none
  | .preg j f args dis os, s => match call f (evOs s.e args) (frz s.m) s.n with
    | some (r, _, n') => if r.flat = true ∨ n' = s.n then
        match evalOps call (setOp os j (.mv (.c r))) s.e s.m s.n with
        | some (e, m, n) => if disOk e dis then some (.n, ⟨e, m, n⟩) else none
        | none => none
      else none
    | none => none
  | .pureg j f args es dis os, s => match evalOps call (os.take j) s.e s.m s.n with
    | some (e1, _, _) => match call f (evOs e1 args) (frz s.m) s.n with
      | some (r, _, _) => if r.flat = true ∧ safeOk s.m e1 (usesOs args) = true then
          match evalOps call (setOp os j (.pre r args)) s.e s.m s.n with
          | some (e, m, n) => if disOk e dis = true ∧ safeOk s.m e es = true then some (.n, ⟨e, m, n⟩) else none
          | none => none
        else none
      | none => none
    | none => none
  | .seq a b, s => match exec call K a s with
    | some (.n, s') => exec call K b s'
    | r => r
  | .cond c a b, s => match evO s.e c with
    | .one (.sc (.bool t)) => (match t with | true => exec call K a s | false => exec call K b s)
    | _ => none
  | .block id b, s => match exec call K b s with
    | some (.x i, s') => if i = id then some (.n, s') else some (.x i, s')
    | r => r
  | .loop b, s => iter (exec call K b) K s
  | .exit id, s => some (.x id, s)
  | .ret, s => some (.r, s)
  | .walk fi nd p1 p2 x a b, s => match evO s.e x with
    | .one (.clo f [.ptr bx 0]) =>
      if f = fi then
        match (s.m bx).bind (·.cells[0]?) with
        | some c => match segsOf c with
          | some (id, off, len) =>
            match walkGo call nd (walkB (exec call K a) (exec call K b) s.e p1 p2) s.n id off len 0 (upd s.m s.n (some ⟨[zc, zc], true⟩)) (s.n + 1) with
            | some (m', n') => some (.n, ⟨s.e, m', n'⟩)
            | none => none
          | none => none
        | none => none
      else none
    | _ => none

inductive SRes where
  | tmp (t : Nat)
  | cell1 (t : Nat)
  | cellA (t n : Nat)

/-- nat: a function that is not run but told (its contract stands outside). -/
structure SFun where
  nt : Nat
  body : SC
  res : List SRes
  nat : Option (List Reg → Mem → Nat → Option (Reg × Mem × Nat)) := none

def evRes (s : St) : List SRes → Option (List Reg)
  | [] => some []
  | .tmp t :: rs => (evRes s rs).map (s.e t :: ·)
  | .cell1 t :: rs => match s.e t with
    | .one (.ptr id off) => match s.m id with
      | some b => match b.cells[off]? with
        | some c => (evRes s rs).map (.one c :: ·)
        | none => none
      | none => none
    | _ => none
  | .cellA t k :: rs => match s.e t with
    | .one (.ptr id off) => match rd s.m id off k with
      | some cs => (evRes s rs).map (.agg cs :: ·)
      | none => none
    | _ => none

def pack : List Reg → Reg
  | [r] => r
  | rs => .tup rs

def run (T : Nat → Option SFun) : Nat → Callf
  | 0 => fun _ _ _ _ => none
  | k + 1 => fun f args m n =>
    match T f with
    | none => none
    | some fn => match fn.nat with
      | some g => g args m n
      | none =>
        if args.length ≤ fn.nt then
          match exec (run T k) k fn.body ⟨fun t => args.getD t (.tup []), m, n⟩ with
          | some (.n, s) | some (.r, s) => match evRes s fn.res with
            | some rs => some (pack rs, s.m, s.n)
            | none => none
          | _ => none
        else none

/-! ### slimming -/
def dstsOk (N : Nat) : List SOper → Bool
  | [] => true
  | s :: ss => (match s.dst with
    | some d => decide (d < N)
    | none => true) && dstsOk N ss

/-- The constant allocs ahead of all that acts otherwise. -/
def usGo : Nat → List SOper → List Nat
  | _, [] => []
  | i, s :: ss => if (allocOf s).isSome then i :: usGo (i + 1) ss else if isEff s then [] else usGo (i + 1) ss
def esGo (us : List Nat) (cl : List (List Nat)) : Nat → List SOper → List Nat
  | _, [] => []
  | j, s :: ss => (match s.dst with
    | some d => if us.contains j || us.all (fun u => inC cl u j) then [] else [d]
    | none => []) ++ esGo us cl (j + 1) ss

/-- A call that is reckoned ahead of its region. -/
def preOf (P : Program) (ng : Nat) (ops : Array Oper) : List (Nat × Nat) → Option (Nat × Nat × List O × List (Nat × Nat))
  | (4294967295, j) :: dis => match ops[j]? with
    | some o => match o.guard, o.op with
      | none, .call c => match c.callee, slimOs ng c.args.toList with
        | .value (.func f), some args => match P.funcs[f]? with
          | some fn => if fn.body.isSome = true ∧ (fn.name == "runtime.NumGoroutine") = false then some (j, f, args, dis) else none
          | none => none
        | _, _ => none
      | _, _ => none
    | none => none
  | _ => none
def preOfU (P : Program) (ng : Nat) (ops : Array Oper) : List (Nat × Nat) → Option (Nat × Nat × List O × List (Nat × Nat))
  | (4294967294, j) :: dis => preOf P ng ops ((4294967295, j) :: dis)
  | _ => none
def argOk (ts : List Nat) (ss : List SOper) : Bool := ss.all fun s => match s.dst with
  | some d => !ts.contains d
  | none => true
def hardOk (cl : List (List Nat)) (j : Nat) : Nat → List SOper → Bool
  | _, [] => true
  | k, s :: ss => (kindOf s.op != .hard || inC cl j k) && hardOk cl j (k + 1) ss

def slimC (P : Program) (ng : Nat) (md : Nat → Mode) (cls : Nat → List (List Nat) × List (Nat × Nat)) (rf : Option (Nat × Nat)) (N : Nat) : Code → Option SC
  | .skip => some .skip
  | .region id ops d => match slimOpers P ng md ops ops.toList with
    | some ss => match preOf P ng ops (cls id).2 with
      | some (j, f, args, dis) => if (dstsOk N ss && d && dOk [] dis (cls id).1 ops (setOp ss j (.mv (.c (.tup [])))) && argOk (usesOs args) ss && hardOk (cls id).1 j 0 (setOp ss j (.mv (.c (.tup []))))) = true then some (.preg j f args dis ss) else none
      | none => match preOfU P ng ops (cls id).2 with
        | some (j, f, args, dis) => if (dstsOk N ss && d && dOk (usGo 0 (setOp ss j (.pre (.tup []) args))) dis (cls id).1 ops (setOp ss j (.pre (.tup []) args)) && uOk (usGo 0 (setOp ss j (.pre (.tup []) args))) (esGo (usGo 0 (setOp ss j (.pre (.tup []) args))) (cls id).1 0 (setOp ss j (.pre (.tup []) args))) (cls id).1 (setOp ss j (.pre (.tup []) args)) && !(usGo 0 (setOp ss j (.pre (.tup []) args))).isEmpty && hardOk (cls id).1 j 0 (setOp ss j (.pre (.tup []) args))) = true then some (.pureg j f args (esGo (usGo 0 (setOp ss j (.pre (.tup []) args))) (cls id).1 0 (setOp ss j (.pre (.tup []) args))) dis ss) else none
        | none => if dstsOk N ss && (!d || dOk [] (cls id).2 (cls id).1 ops ss) then (match d, (cls id).2 with
      | true, x :: xs => some (.dreg (x :: xs) ss)
      | _, _ => some (.reg ss))
      else if dstsOk N ss && d && dOk (usGo 0 ss) (cls id).2 (cls id).1 ops ss && uOk (usGo 0 ss) (esGo (usGo 0 ss) (cls id).1 0 ss) (cls id).1 ss && !(usGo 0 ss).isEmpty then some (.ureg (esGo (usGo 0 ss) (cls id).1 0 ss) (cls id).2 ss) else none
    | none => none
  | .seq a b => match slimC P ng md cls rf N a, slimC P ng md cls rf N b with
    | some x, some y => some (.seq x y)
    | _, _ => none
  | .cond c a b => match slimO ng c, slimC P ng md cls rf N a, slimC P ng md cls rf N b with
    | some z, some x, some y => some (.cond z x y)
    | _, _, _ => none
  | .block id b => (slimC P ng md cls rf N b).map (.block id)
  | .loop b => (slimC P ng md cls rf N b).map .loop
  | .exit id => some (.exit id)
  | .ret => some .ret
  | .rangeFunc g ps a b => match slimO ng g, slimC P ng md cls rf N a, slimC P ng md cls rf N b, ps.toList, rf with
    | some x, some a', some b', [p1, p2], some (fi, nd) => if p1 < N ∧ p2 < N ∧ noWalk a' = true ∧ noWalk b' = true then some (.walk fi nd p1 p2 x a' b') else none
    | _, _, _, _, _ => none
  | _ => none

def slimRes (P : Program) : List ResultVar → Option (List SRes)
  | [] => some []
  | .tmp t :: rs => (slimRes P rs).map (.tmp t :: ·)
  | .cell a t :: rs => match tagg P t, tsz P t, slimRes P rs with
    | some true, some s, some xs => some (.cellA a s :: xs)
    | some false, some _, some xs => some (.cell1 a :: xs)
    | _, _, _ => none

def slimF (P : Program) (ng : Nat) (md : Nat → Mode) (cls : Nat → List (List Nat) × List (Nat × Nat)) (rf : Option (Nat × Nat)) (fn : Func) : Option SFun :=
  if fn.name == "runtime.NumGoroutine" then none else
  match fn.body with
  | none => none
  | some c => match slimC P ng md cls rf fn.ntmps c, slimRes P fn.results.toList with
    | some sc, some rs => some ⟨fn.ntmps, sc, rs, none⟩
    | _, _ => none

/-! ### soundness -/
def toExit : Ex → Exit
  | .n => .normal
  | .x id => .exit id
  | .r => .ret

section
variable {P : Program} {ng N : Nat} {md : Nat → Mode} {cls : Nat → List (List Nat) × List (Nat × Nat)} {rf : Option (Nat × Nat)} {call : Callf}

theorem slimOpers_get {ops : Array Oper} : ∀ {os : List Oper} {ss : List SOper}, slimOpers P ng md ops os = some ss → ss.length = os.length ∧ ∀ (i : Nat) (so : SOper), ss[i]? = some so → ∃ o, os[i]? = some o ∧ slimOper P ng md ops o = some so
  | [], ss, h => by simp only [slimOpers, Option.some.injEq] at h; subst h; exact ⟨rfl, fun i so h => by simp at h⟩
  | o :: os, ss, h => by
    simp only [slimOpers] at h
    split at h
    case h_2 => cases h
    rename_i s ss' h1 h2
    cases h
    obtain ⟨h3, h4⟩ := slimOpers_get h2
    refine ⟨by simp [h3], fun i so hi => ?_⟩
    cases i with
    | zero => simp only [List.getElem?_cons_zero, Option.some.injEq] at hi; subst hi; exact ⟨o, rfl, h1⟩
    | succ i => simpa using h4 i so (by simpa using hi)

theorem dstsOk_get : ∀ {ss : List SOper}, dstsOk N ss = true → ∀ (i : Nat) (so : SOper), ss[i]? = some so → ∀ d, so.dst = some d → d < N
  | [], _, i, so, h, _, _ => by simp at h
  | s :: ss, h, i, so, hi, d, hd => by
    simp only [dstsOk, Bool.and_eq_true] at h
    cases i with
    | zero =>
      simp only [List.getElem?_cons_zero, Option.some.injEq] at hi
      subst hi
      have := h.1
      simpa [hd] using this
    | succ i => exact dstsOk_get h.2 i so (by simpa using hi) d hd

variable {F : Fence} {nf : Nat} [Wide F]

theorem region_sound (hcall : CallOK P ng call) (hmix : P.follows .mixedOrders = true) {id : Nat} {ops : Array Oper} {d : Bool} {ss : List SOper} {Q : Exit → Act → World → Prop}
    (hs : slimOpers P ng md ops ops.toList = some ss) (hN : dstsOk N ss = true) {dis : List (Nat × Nat)} {cl : List (List Nat)} (hd : d = true → dOk [] dis cl ops ss = true) {env env' : Nat → Reg} {m m' : Mem} {n n' : Nat} {ρ : Loc} {a : Act} {w : World}
    (hG : Good N ng ρ n w env m a) (hev : evalOps call ss env m n = some (env', m', n')) (hdis : d = true → disOk env' dis = true)
    (hQ : ∀ ρ' a' w', Step ρ n w m ρ' n' w' m' → Good N ng ρ' n' w' env' m' a' → a'.defers = a.defers → Q .normal a' w') : (Code.region id ops d).wpIn F nf P Q a w := by
  obtain ⟨hl, hg⟩ := slimOpers_get hs
  have hM : ∀ (i : Nat) (so : SOper), ss[i]? = some so → Matches P ng N md ops i so := fun i so hi => by
    obtain ⟨o, h1, h2⟩ := hg i so hi
    exact ⟨o, by simpa using h1, h2, fun dd hdd => dstsOk_get hN i so hi dd hdd⟩
  cases d with
  | false =>
    refine wpIn_region (wpOps_sound (md := md) hcall (List.range ops.size) ss env env' m m' n n' ρ a w (by simp [hl]) (fun j i so h1 h2 => ?_) hG hev hQ)
    have hj : i = j := by
      have := List.getElem?_eq_some_iff.1 h1
      obtain ⟨h3, h4⟩ := this
      simp at h4
      exact h4.symm
    subst hj
    exact hM i so h2
  | true =>
    have hlen : ss.length = ops.size := by simpa using hl
    have hc := chk_of (hd rfl) hlen
    obtain ⟨E, M, C, R, e1, e2, e3, e4, e5, e6, e7⟩ := trace ss _ _ _ _ _ _ hev
    have hdr := Step.drew hG.mem
    refine wpIn_region_any hmix ?_
    subst e1; subst e2; subst e3; subst e4; subst e5; subst e6
    refine wpAny_ok (us := []) (P := P) (ng := ng) (N := N) (md := md) (cl := cl) (ss := ss) hcall hc (ρ0 := ρ) (w0 := w.drew) (d0 := a.defers) hdr.rel (fun i so h => Or.inl (hM i so h)) e7 (hdis rfl) ?_ ops.size _ a w.drew ?_ ?_
    · intro ρ' a' w' h1 h2 h3
      exact hQ ρ' a' w' (hdr.trans h1) h2 h3
    · unfold left
      rw [← hlen]
      exact Nat.le_trans List.countP_le_length (by simp)
    · have hno : ∀ i, ¬ Lst (Array.replicate ops.size false) i := by
        intro i
        unfold Lst
        simp only [Array.getD_eq_getD_getElem?]
        by_cases h : i < ops.size <;> simp [h]
      refine ⟨by simp [hlen], fun j o h => absurd h (hno j), hG.size, rfl, (fun u hu => by cases hu), 0, ρ, Nat.zero_le _, fun i so _ _ => ⟨fun h => absurd h (hno i), fun h => by omega⟩, Step.refl hdr.rel, hG.glob, fun t => ⟨fun i so _ _ h => absurd h (hno i), fun _ => RRel.mono hdr.le _ _ (hG.env t)⟩, ?_⟩
      intro i hi id' b hb
      have : i = 0 := by omega
      subst this
      exact hG.mem.lt id' b hb

theorem setOp_get {op : SOp} : ∀ {os : List SOper} {j : Nat} (i : Nat) (x : SOper), (setOp os j op)[i]? = some x → ∃ y, os[i]? = some y ∧ x.dst = y.dst ∧ (i = j → x.op = op ∧ x.guard = none) ∧ (i ≠ j → x = y)
  | [], j, i, x, h => by simp [setOp] at h
  | o :: os, 0, 0, x, h => by
    simp only [setOp, List.getElem?_cons_zero, Option.some.injEq] at h
    subst h
    exact ⟨o, rfl, rfl, fun _ => ⟨rfl, rfl⟩, fun h => absurd rfl h⟩
  | o :: os, 0, i + 1, x, h => ⟨x, by simpa [setOp] using h, rfl, fun h => by omega, fun _ => rfl⟩
  | o :: os, j + 1, 0, x, h => by
    simp only [setOp, List.getElem?_cons_zero, Option.some.injEq] at h
    subst h
    exact ⟨o, rfl, rfl, fun h => by omega, fun _ => rfl⟩
  | o :: os, j + 1, i + 1, x, h => by
    obtain ⟨y, h1, h2, h3, h4⟩ := setOp_get (os := os) (j := j) i x (by simpa [setOp] using h)
    exact ⟨y, by simpa using h1, h2, fun e => h3 (by omega), fun e => h4 (by omega)⟩
theorem setOp_len {op : SOp} : ∀ {os : List SOper} {j : Nat}, (setOp os j op).length = os.length
  | [], _ => rfl
  | o :: os, 0 => rfl
  | o :: os, j + 1 => by simp [setOp, setOp_len (os := os) (j := j)]
/-- Two operations that a check takes for one. -/
def Alike (x y : SOper) : Prop := x.dst = y.dst ∧ x.guard = y.guard ∧ kindOf x.op = kindOf y.op ∧ uses x.op = uses y.op ∧ addrT x.op = addrT y.op ∧ isStore x.op = isStore y.op ∧ lookT x.op = lookT y.op
theorem Alike.refl (x : SOper) : Alike x x := ⟨rfl, rfl, rfl, rfl, rfl, rfl, rfl⟩
theorem pairOk_alike {us : List Nat} {dis : List (Nat × Nat)} {cl : List (List Nat)} {i j : Nat} {x x' y y' : SOper} (hx : Alike x x') (hy : Alike y y') : pairOk us dis cl i x j y = pairOk us dis cl i x' j y' := by
  obtain ⟨a1, a2, a3, a4, a5, a6, a7⟩ := hx
  obtain ⟨b1, b2, b3, b4, b5, b6, b7⟩ := hy
  have u1 : usesS x = usesS x' := by unfold usesS; rw [a4, a2]
  have u2 : usesS y = usesS y' := by unfold usesS; rw [b4, b2]
  have e1 : isEff x = isEff x' := by unfold isEff; rw [a3]
  have e2 : isEff y = isEff y' := by unfold isEff; rw [b3]
  have d1 : disC dis x.op y.op = disC dis x'.op y'.op := by unfold disC; rw [b6, a5, b5]
  have d2 : disC dis y.op x.op = disC dis y'.op x'.op := by unfold disC; rw [a6, a5, b5]
  unfold pairOk
  rw [a1, b1, u1, u2, e1, e2, a3, b3, d1, d2, a5]
theorem allPairs_set {us : List Nat} {dis : List (Nat × Nat)} {cl : List (List Nat)} {op op' : SOp} (ha : ∀ d, Alike ⟨d, op, none⟩ ⟨d, op', none⟩) : ∀ {os : List SOper} {j i0 : Nat}, allPairs us dis cl i0 (setOp os j op) = allPairs us dis cl i0 (setOp os j op')
  | [], _, _ => rfl
  | o :: os, 0, i0 => by
    have hp : ∀ (ys : List SOper) (k : Nat), pairsOk us dis cl i0 ⟨o.dst, op, none⟩ k ys = pairsOk us dis cl i0 ⟨o.dst, op', none⟩ k ys := by
      intro ys
      induction ys with
      | nil => intro k; rfl
      | cons y ys ih => intro k; simp only [pairsOk]; rw [pairOk_alike (ha o.dst) (Alike.refl y), ih]
    simp only [setOp, allPairs]
    obtain ⟨_, _, a3, _, a5, _, a7⟩ := ha o.dst
    simp only at a3 a5 a7
    rw [hp, a3, a5, a7]
  | o :: os, j + 1, i0 => by
    have hp : ∀ (ys : List SOper) (j k : Nat), pairsOk us dis cl i0 o k (setOp ys j op) = pairsOk us dis cl i0 o k (setOp ys j op') := by
      intro ys
      induction ys with
      | nil => intro j k; rfl
      | cons y ys ih =>
        intro j k
        cases j with
        | zero => simp only [setOp, pairsOk]; rw [pairOk_alike (Alike.refl o) (ha y.dst)]
        | succ j => simp only [setOp, pairsOk]; rw [ih]
    simp only [setOp, allPairs]
    rw [hp, allPairs_set ha]
theorem hardOk_get {cl : List (List Nat)} {j : Nat} : ∀ {ss : List SOper} {k0 : Nat}, hardOk cl j k0 ss = true → ∀ (k : Nat) (s : SOper), ss[k]? = some s → kindOf s.op = .hard → inC cl j (k0 + k) = true
  | [], _, _, k, s, h, _ => by simp at h
  | z :: ss, k0, h, 0, s, hs, hk => by
    simp only [hardOk, Bool.and_eq_true, Bool.or_eq_true, bne_iff_ne, ne_eq] at h
    simp only [List.getElem?_cons_zero, Option.some.injEq] at hs
    subst hs
    exact h.1.resolve_left (fun h' => h' hk)
  | z :: ss, k0, h, k + 1, s, hs, hk => by
    simp only [hardOk, Bool.and_eq_true] at h
    have := hardOk_get h.2 k s (by simpa using hs) hk
    rwa [Nat.add_assoc, Nat.add_comm 1 k] at this
theorem evOs_pre {ρ : Loc} {n : Nat} {w : World} {env : Nat → Reg} {a : Act} (hg : Glob ng ρ n) : ∀ {xs : List Operand} {os : List O}, slimOs ng xs = some os → (∀ t ∈ usesOs os, RRel ρ n w (env t) (a.tmps.getD t undef)) → RRels ρ n w (evOs env os) (xs.map a.eval)
  | [], os, h, _ => by simp only [slimOs, Option.some.injEq] at h; subst h; simp [evOs, RRels]
  | x :: xs, os, h, he => by
    simp only [slimOs] at h
    split at h
    case h_2 => cases h
    rename_i y ys h1 h2
    cases h
    simp only [usesOs, List.flatMap_cons, List.mem_append] at he
    simp only [evOs, RRels, List.map_cons]
    refine ⟨_, _, rfl, ?_, evOs_pre hg h2 (fun t ht => he t (Or.inr ht))⟩
    cases x with
    | tmp t => simp only [slimO, Option.some.injEq] at h1; subst h1; exact he t (Or.inl (by simp [usesO]))
    | const v =>
      simp only [slimO, Option.map_eq_some_iff] at h1
      obtain ⟨r, h1, rfl⟩ := h1
      exact constReg_rel h1
    | global g =>
      simp only [slimO] at h1
      split at h1
      · rename_i hlt
        cases h1
        obtain ⟨h1, h2⟩ := hg g hlt
        simp [evO, RRel, CRel, h1, h2, Act.eval]
      · cases h1
    | func f =>
      simp only [slimO, Option.some.injEq] at h1
      subst h1
      simp only [evO, RRel, CRel, Act.eval]
      exact ⟨[], rfl, by simp [CRels]⟩

theorem region_soundP (hcall : CallOK P ng call) (hmix : P.follows .mixedOrders = true) {id : Nat} {ops : Array Oper} {ss : List SOper} {Q : Exit → Act → World → Prop}
    (hs : slimOpers P ng md ops ops.toList = some ss) (hN : dstsOk N ss = true) {pd dis : List (Nat × Nat)} {j f : Nat} {args : List O} (hp : preOf P ng ops pd = some (j, f, args, dis)) {cl : List (List Nat)} (hd : dOk [] dis cl ops (setOp ss j (.mv (.c (.tup [])))) = true) (ha : argOk (usesOs args) ss = true) (hh : hardOk cl j 0 (setOp ss j (.mv (.c (.tup [])))) = true) {env env' : Nat → Reg} {m m' m1 : Mem} {n n' n1 : Nat} {r : Reg} {ρ : Loc} {a : Act} {w : World}
    (hG : Good N ng ρ n w env m a) (hc : call f (evOs env args) (frz m) n = some (r, m1, n1)) (hfl : r.flat = true ∨ n1 = n) (hev : evalOps call (setOp ss j (.mv (.c r))) env m n = some (env', m', n')) (hdis : disOk env' dis = true)
    (hQ : ∀ ρ' a' w', Step ρ n w m ρ' n' w' m' → Good N ng ρ' n' w' env' m' a' → a'.defers = a.defers → Q .normal a' w') : (Code.region id ops true).wpIn F nf P Q a w := by
  obtain ⟨hl, hg⟩ := slimOpers_get hs
  -- the call
  obtain ⟨o, c, fn, hoj, hgd, hop, hca, hargs, hfn, hfb, hfn2⟩ : ∃ (o : Oper) (c : Call) (fn : Func), ops[j]? = some o ∧ o.guard = none ∧ o.op = .call c ∧ c.callee = .value (.func f) ∧ slimOs ng c.args.toList = some args ∧ P.funcs[f]? = some fn ∧ fn.body.isSome = true ∧ (fn.name == "runtime.NumGoroutine") = false := by
    unfold preOf at hp
    split at hp
    case h_2 => cases hp
    rename_i j0 dis0
    split at hp
    case h_2 => cases hp
    rename_i o ho
    split at hp
    case h_2 => cases hp
    rename_i c hgd hop
    split at hp
    case h_2 => cases hp
    rename_i f0 args0 hca hargs
    split at hp
    case h_2 => cases hp
    rename_i fn hfn
    split at hp
    case isFalse => cases hp
    rename_i hb
    simp only [Option.some.injEq, Prod.mk.injEq] at hp
    obtain ⟨rfl, rfl, rfl, rfl⟩ := hp
    exact ⟨o, c, fn, ho, hgd, hop, hca, hargs, hfn, hb.1, hb.2⟩
  have hlen : (setOp ss j (.mv (.c r))).length = ops.size := by rw [setOp_len]; simpa using hl
  have hal : ∀ d, Alike ⟨d, .mv (.c (.tup [])), none⟩ ⟨d, .mv (.c r), none⟩ := fun d => ⟨rfl, rfl, rfl, rfl, rfl, rfl, rfl⟩
  have hd' : dOk [] dis cl ops (setOp ss j (.mv (.c r))) = true := by
    simp only [dOk, Bool.and_eq_true] at hd ⊢
    exact ⟨hd.1, by rw [← allPairs_set hal]; exact hd.2⟩
  have hck := chk_of hd' hlen
  obtain ⟨E, M, C, R, e1, e2, e3, e4, e5, e6, e7⟩ := trace (setOp ss j (.mv (.c r))) _ _ _ _ _ _ hev
  have hdr := Step.drew hG.mem
  refine wpIn_region_any hmix ?_
  subst e1; subst e2; subst e3; subst e4; subst e5; subst e6
  have hRj : ∀ x, (setOp ss j (.mv (.c r)))[j]? = some x → R j = r := by
    intro x hx
    have h1 := (e7 j x hx).1
    obtain ⟨y, _, _, h3, _⟩ := setOp_get j x hx
    obtain ⟨h4, h5⟩ := h3 rfl
    unfold stepS at h1
    rw [show wantedS (E j) x = true by unfold wantedS; rw [h5]] at h1
    rw [h4] at h1
    simp only [evalOp, evO, Option.some.injEq, Prod.mk.injEq] at h1
    exact h1.1.symm
  have hno : ∀ i, ¬ Lst (Array.replicate ops.size false) i := by
    intro i
    unfold Lst
    simp only [Array.getD_eq_getD_getElem?]
    by_cases h : i < ops.size <;> simp [h]
  have hdst : ∀ (i : Nat) (x : SOper), (setOp ss j (.mv (.c r)))[i]? = some x → ∀ d, x.dst = some d → d < N := fun i x hx d hdx => by
    obtain ⟨y, h1, h2, _, _⟩ := setOp_get i x hx
    exact dstsOk_get hN i y h1 d (by rw [← h2]; exact hdx)
  refine wpAny_ok (us := []) (P := P) (ng := ng) (N := N) (md := md) (cl := cl) (ss := setOp ss j (.mv (.c r))) hcall hck (ρ0 := ρ) (w0 := w.drew) (d0 := a.defers) hdr.rel (fun i so h => ?_) e7 hdis ?_ ops.size _ a w.drew ?_ ?_
  · by_cases e : i = j
    · subst e
      obtain ⟨y, h1, h2, h3, _⟩ := setOp_get i so h
      obtain ⟨h4, h5⟩ := h3 rfl
      refine Or.inr ⟨hdst i so h, by simp [isEff, kindOf, h4], fun k sk hk hhard => ?_, ?_⟩
      · obtain ⟨y', q1, q2, q3, q4⟩ := setOp_get k sk hk
        have hki : k ≠ i := fun e => by obtain ⟨q5, _⟩ := q3 e; rw [q5] at hhard; simp [kindOf] at hhard
        have hk' : (setOp ss i (.mv (.c (.tup []))))[k]? = some y' := by
          have hlk : k < (setOp ss i (.mv (.c (.tup [])))).length := by rw [setOp_len]; exact (List.getElem?_eq_some_iff.1 q1).1
          obtain ⟨y2, p1, _, _, p4⟩ := setOp_get k _ (List.getElem?_eq_getElem hlk)
          rw [List.getElem?_eq_getElem hlk, p4 hki]
          rw [q1] at p1
          exact p1.symm
        have := hardOk_get hh k y' hk' (by rw [← q4 hki]; exact hhard)
        simpa using this
      · intro ρ1 nn w1 mm a1 K hm1 hg1 hJ hL hsz hT _ hK
        unfold wpOpIn
        simp only [hoj]
        rw [show Region.wanted o (yielded ops a1.tmps) = true by unfold Region.wanted; rw [hgd]]
        simp only [if_true]
        have hvals : RRels ρ1 (C 0) w1 (evOs (E 0) args) (c.args.toList.map a1.eval) := by
          refine evOs_pre (fun g hgl => ⟨(hG.glob g hgl).1, by rw [hL.loc g (hG.glob g hgl).1]; exact (hG.glob g hgl).2⟩) hargs (fun t ht => ?_)
          refine RRel.shrink _ _ _ (hG.env t) (hT t (fun k sk hk hdk => ?_))
          obtain ⟨y', q1, q2, _, _⟩ := setOp_get k sk hk
          have := List.all_eq_true.1 ha y' (List.mem_of_getElem? q1)
          rw [← q2, hdk] at this
          simp only [Bool.not_eq_true', List.contains_eq_mem, decide_eq_false_iff_not] at this
          exact this ht
        obtain ⟨_, hcs⟩ := hcall f _ _ _ _ _ _ hc ρ1 w1 _ hJ (fun g hgl => ⟨(hG.glob g hgl).1, by rw [hL.loc g (hG.glob g hgl).1]; exact (hG.glob g hgl).2⟩) hvals
        have hrun : (execOp a1.eval o).run P w1 = .ok (.enter f (c.args.toList.map a1.eval).toArray) w1 := by
          have h5 := run_callFunc (args := (c.args.toList.map a1.eval).toArray) hfn hfb hfn2 w1
          have h6 : (c.args.toList.map a1.eval).toArray = c.args.map a1.eval := by apply Array.ext'; simp
          rw [h6] at h5 ⊢
          simp [execOp, hop, resolve, hca, Act.eval, Deferred.ofValue, invoke, h5]
        refine ⟨fun f _ => Wide.fn f, ?_⟩
        rw [Oper.semAt_eq F.round a1.eval o (fun c' e => by rw [hop] at e; cases e), hrun, Oper.uponIn_enter]
        refine ⟨fun hd => absurd hd (by rw [Wide.depth]; simp), CallsIn.mono (Wide.calls hcs) fun e w' he => ?_⟩
        obtain ⟨v, ρ', rfl, hst, hv⟩ := he
        have hf : ∀ k, k < w1.heap.size → w'.heap[k]? = w1.heap[k]? := fun k hk => hst.fr.block k hk frz_own
        have L : Le ρ1 nn w1 ρ1 nn w' := ⟨Nat.le_refl _, fun _ _ => rfl, hst.le.live⟩
        have hyd : o.dst = so.dst := by
          obtain ⟨o', r1, r2⟩ := hg i y h1
          have : ops[i]? = some o' := by simpa using r1
          rw [hoj] at this
          cases this
          unfold slimOper at r2
          simp only [Option.some.injEq] at r2
          rw [h2, ← r2]
        show K (a1.put o.dst v) w'
        rw [hyd]
        refine hK v ρ1 w' ⟨L, hm1.quiet hf hst.fr.size L, hst.fr.mono (fun k hk => absurd hk frz_own), fun id b _ hb => ⟨b, hb, fun x => x⟩, fun id b q1 q2 => absurd (hm1.lt id b q2) (Nat.not_lt.2 q1)⟩ ?_
        rw [hRj so h]
        rcases hfl with hfl | hfl
        · exact flat_rel hfl hv
        · rw [hfl] at hv
          exact RRel.mono ⟨hL.le, fun id hid => (hst.le.loc id hid).symm, fun a h => h⟩ _ _ hv
    · refine Or.inl ?_
      obtain ⟨y, h1, h2, _, h4⟩ := setOp_get i so h
      rw [h4 e]
      obtain ⟨o', r1, r2⟩ := hg i y h1
      exact ⟨o', by simpa using r1, r2, fun dd hdd => dstsOk_get hN i y h1 dd hdd⟩
  · intro ρ' a' w' h1 h2 h3
    exact hQ ρ' a' w' (hdr.trans h1) h2 h3
  · unfold left
    rw [← hlen]
    exact Nat.le_trans List.countP_le_length (by simp)
  · refine ⟨by simp [hlen], fun j o h => absurd h (hno j), hG.size, rfl, (fun u hu => by cases hu), 0, ρ, Nat.zero_le _, fun i so _ _ => ⟨fun h => absurd h (hno i), fun h => by omega⟩, Step.refl hdr.rel, hG.glob, fun t => ⟨fun i so _ _ h => absurd h (hno i), fun _ => RRel.mono hdr.le _ _ (hG.env t)⟩, ?_⟩
    intro i hi id' b hb
    have : i = 0 := by omega
    subst this
    exact hG.mem.lt id' b hb

theorem setOp_take {op : SOp} : ∀ {os : List SOper} {j : Nat}, (setOp os j op).take j = os.take j
  | [], _ => rfl
  | o :: os, 0 => rfl
  | o :: os, j + 1 => by simp [setOp, setOp_take (os := os) (j := j)]
theorem trace_take {ss : List SOper} {E : Nat → Nat → Reg} {M : Nat → Mem} {C : Nat → Nat} {R : Nat → Reg} (htr : ∀ i so, ss[i]? = some so → stepS call (E i) (M i) (C i) so = some (R i, M (i + 1), C (i + 1)) ∧ E (i + 1) = putE (E i) so.dst (R i)) :
    ∀ j, j ≤ ss.length → evalOps call (ss.take j) (E 0) (M 0) (C 0) = some (E j, M j, C j) := by
  have key : ∀ k i, i + k ≤ ss.length → evalOps call ((ss.drop i).take k) (E i) (M i) (C i) = some (E (i + k), M (i + k), C (i + k)) := by
    intro k
    induction k with
    | zero => intro i _; simp [evalOps]
    | succ k ih =>
      intro i hi
      have hlt : i < ss.length := by omega
      rw [List.drop_eq_getElem_cons hlt, List.take_succ_cons]
      obtain ⟨h1, h2⟩ := htr i _ (List.getElem?_eq_getElem hlt)
      have h3 := ih (i + 1) (by omega)
      unfold stepS at h1
      simp only [evalOps]
      cases hw : wantedS (E i) ss[i] with
      | true =>
        rw [hw] at h1
        simp only [if_true] at h1
        simp only [h1]
        rw [← h2, h3, show i + 1 + k = i + (k + 1) by omega]
      | false =>
        rw [hw] at h1
        simp only [Bool.false_eq_true, if_false, Option.some.injEq, Prod.mk.injEq] at h1
        obtain ⟨h4, h5, h6⟩ := h1
        simp only
        rw [h4, ← h2, h5, h6, h3, show i + 1 + k = i + (k + 1) by omega]
  intro j hj
  have := key j 0 (by omega)
  simpa using this
theorem uOk_like {us es : List Nat} {cl : List (List Nat)} {A B : List SOper} (hlen : A.length = B.length) (hf : ∀ (i : Nat) (x : SOper), B[i]? = some x → ∃ y, A[i]? = some y ∧ y.dst = x.dst ∧ usesS y = usesS x ∧ isEff y = isEff x ∧ (allocOf y).isSome = (allocOf x).isSome) (h : uOk us es cl A = true) : uOk us es cl B = true := by
  have hn : ∀ i : Nat, B[i]? = none → A[i]? = none := fun i hi => by
    rw [List.getElem?_eq_none_iff] at hi ⊢
    omega
  simp only [uOk, Bool.and_eq_true, List.all_eq_true, List.mem_range] at h ⊢
  refine ⟨fun u hu => ?_, fun j hj => ?_⟩
  · have h1 := h.1 u hu
    cases hB : B[u]? with
    | none => rw [hn u hB] at h1; cases h1
    | some x =>
      obtain ⟨y, hy, _, _, _, e⟩ := hf u x hB
      rw [hy] at h1
      simp only at h1 ⊢
      rw [← e]; exact h1
  · have h2 := h.2 j (by omega)
    cases hB : B[j]? with
    | none => rfl
    | some x =>
      obtain ⟨y, hy, e1, e2, e3, _⟩ := hf j x hB
      rw [hy] at h2
      simp only at h2 ⊢
      unfold jOk at h2 ⊢
      rw [e1, e2, e3] at h2
      simp only [Bool.or_eq_true, Bool.and_eq_true, List.all_eq_true] at h2 ⊢
      rcases h2 with h2 | ⟨⟨⟨a1, a2⟩, a3⟩, a4⟩
      · exact Or.inl h2
      refine Or.inr ⟨⟨⟨a1, fun u hu => ?_⟩, a3⟩, fun u hu => ?_⟩
      · have h5 := a2 u hu
        cases hu2 : B[u]? with
        | none => rw [hn u hu2] at h5; cases h5
        | some z =>
          obtain ⟨z', hz, k1, _⟩ := hf u z hu2
          rw [hz] at h5
          simp only at h5 ⊢
          rw [← k1]
          exact h5
      · rcases a4 u hu with h5 | h5
        · exact Or.inl h5
        · refine Or.inr ?_
          cases hu2 : B[u]? with
          | none => rw [hn u hu2] at h5; cases h5
          | some z =>
            obtain ⟨z', hz, _, _, k3, _⟩ := hf u z hu2
            rw [hz] at h5
            simp only at h5 ⊢
            rw [← k3]
            exact h5
theorem region_soundPU (hcall : CallOK P ng call) (hmix : P.follows .mixedOrders = true) {id : Nat} {ops : Array Oper} {ss : List SOper} {Q : Exit → Act → World → Prop}
    (hs : slimOpers P ng md ops ops.toList = some ss) (hN : dstsOk N ss = true) {pd dis : List (Nat × Nat)} {j f : Nat} {args : List O} (hp : preOf P ng ops pd = some (j, f, args, dis)) {us es : List Nat} {cl : List (List Nat)} (hd : dOk us dis cl ops (setOp ss j (.pre (.tup []) args)) = true) (hu : uOk us es cl (setOp ss j (.pre (.tup []) args)) = true) (hne : us ≠ []) (hh : hardOk cl j 0 (setOp ss j (.pre (.tup []) args)) = true)
    {env env' e1 : Nat → Reg} {m m' m1 m9 : Mem} {n n' n1 n9 : Nat} {r : Reg} {ρ : Loc} {a : Act} {w : World}
    (hG : Good N ng ρ n w env m a) (hev0 : evalOps call (ss.take j) env m n = some (e1, m9, n9)) (hsa : safeOk m e1 (usesOs args) = true) (hc : call f (evOs e1 args) (frz m) n = some (r, m1, n1)) (hfl : r.flat = true) (hev : evalOps call (setOp ss j (.pre r args)) env m n = some (env', m', n')) (hdis : disOk env' dis = true) (hsafe : safeOk m env' es = true)
    (hQ : ∀ ρ' a' w', Step ρ n w m ρ' n' w' m' → Good N ng ρ' n' w' env' m' a' → a'.defers = a.defers → Q .normal a' w') : (Code.region id ops true).wpIn F nf P Q a w := by
  obtain ⟨hl, hg⟩ := slimOpers_get hs
  -- the call
  obtain ⟨o, c, fn, hoj, hgd, hop, hca, hargs, hfn, hfb, hfn2⟩ : ∃ (o : Oper) (c : Call) (fn : Func), ops[j]? = some o ∧ o.guard = none ∧ o.op = .call c ∧ c.callee = .value (.func f) ∧ slimOs ng c.args.toList = some args ∧ P.funcs[f]? = some fn ∧ fn.body.isSome = true ∧ (fn.name == "runtime.NumGoroutine") = false := by
    unfold preOf at hp
    split at hp
    case h_2 => cases hp
    rename_i j0 dis0
    split at hp
    case h_2 => cases hp
    rename_i o ho
    split at hp
    case h_2 => cases hp
    rename_i c hgd hop
    split at hp
    case h_2 => cases hp
    rename_i f0 args0 hca hargs
    split at hp
    case h_2 => cases hp
    rename_i fn hfn
    split at hp
    case isFalse => cases hp
    rename_i hb
    simp only [Option.some.injEq, Prod.mk.injEq] at hp
    obtain ⟨rfl, rfl, rfl, rfl⟩ := hp
    exact ⟨o, c, fn, ho, hgd, hop, hca, hargs, hfn, hb.1, hb.2⟩
  have hlen : (setOp ss j (.pre r args)).length = ops.size := by rw [setOp_len]; simpa using hl
  have hal : ∀ d, Alike ⟨d, .pre (.tup []) args, none⟩ ⟨d, .pre r args, none⟩ := fun d => ⟨rfl, rfl, rfl, rfl, rfl, rfl, rfl⟩
  have hd' : dOk us dis cl ops (setOp ss j (.pre r args)) = true := by
    simp only [dOk, Bool.and_eq_true] at hd ⊢
    exact ⟨hd.1, by rw [← allPairs_set hal]; exact hd.2⟩
  have hck := chk_of hd' hlen
  obtain ⟨E, M, C, R, e1, e2, e3, e4, e5, e6, e7⟩ := trace (setOp ss j (.pre r args)) _ _ _ _ _ _ hev
  have hu' : uOk us es cl (setOp ss j (.pre r args)) = true := by
    refine uOk_like (by rw [setOp_len, setOp_len]) (fun i x hx => ?_) hu
    obtain ⟨y, h1, h2, h3, h4⟩ := setOp_get i x hx
    have hlk : i < (setOp ss j (.pre (.tup []) args)).length := by rw [setOp_len]; exact (List.getElem?_eq_some_iff.1 h1).1
    obtain ⟨y2, p1, p2, p3, p4⟩ := setOp_get i _ (List.getElem?_eq_getElem hlk)
    refine ⟨_, List.getElem?_eq_getElem hlk, ?_⟩
    rw [h1] at p1
    cases p1
    by_cases e : i = j
    · obtain ⟨q1, q2⟩ := h3 e
      obtain ⟨q3, q4⟩ := p3 e
      refine ⟨by rw [p2, h2], by unfold usesS; rw [q1, q2, q3, q4]; rfl, by unfold isEff; rw [q1, q3]; rfl, ?_⟩
      obtain ⟨xd, xo, xg⟩ := x
      simp only at q1 q2
      subst q1 q2
      generalize (setOp ss j (.pre (.tup []) args))[i] = z at q3 q4
      obtain ⟨zd, zo, zg⟩ := z
      simp only at q3 q4
      subst q3 q4
      simp [allocOf]
    · rw [p4 e, h4 e]
      exact ⟨rfl, rfl, rfl, rfl⟩
  have hdr := Step.drew hG.mem
  refine wpIn_region_any hmix ?_
  subst e1; subst e2; subst e3; subst e4; subst e5; subst e6
  have hE1 : E j = e1 := by
    have hjl : j ≤ (setOp ss j (.pre r args)).length := by
      rw [hlen]
      exact Nat.le_of_lt (Array.getElem?_eq_some_iff.1 hoj).1
    have := trace_take e7 j hjl
    rw [setOp_take, hev0] at this
    simp only [Option.some.injEq, Prod.mk.injEq] at this
    exact this.1.symm
  have hRj : ∀ x, (setOp ss j (.pre r args))[j]? = some x → R j = r := by
    intro x hx
    have h1 := (e7 j x hx).1
    obtain ⟨y, _, _, h3, _⟩ := setOp_get j x hx
    obtain ⟨h4, h5⟩ := h3 rfl
    unfold stepS at h1
    rw [show wantedS (E j) x = true by unfold wantedS; rw [h5]] at h1
    rw [h4] at h1
    simp only [evalOp, Option.some.injEq, Prod.mk.injEq] at h1
    exact h1.1.symm
  have hno : ∀ i, ¬ Lst (Array.replicate ops.size false) i := by
    intro i
    unfold Lst
    simp only [Array.getD_eq_getD_getElem?]
    by_cases h : i < ops.size <;> simp [h]
  have hdst : ∀ (i : Nat) (x : SOper), (setOp ss j (.pre r args))[i]? = some x → ∀ d, x.dst = some d → d < N := fun i x hx d hdx => by
    obtain ⟨y, h1, h2, _, _⟩ := setOp_get i x hx
    exact dstsOk_get hN i y h1 d (by rw [← h2]; exact hdx)
  refine wpAny_u (us := us) (es := es) (P := P) (ng := ng) (N := N) (md := md) (cl := cl) (ss := setOp ss j (.pre r args)) hcall hck (hM := fun i so h => ?_) (ρ0 := ρ) (w0 := w.drew) (d0 := a.defers) e7 hdis ?_ hu' hsafe hdr.rel hG.glob ops.size _ a w.drew ?_ ?_ (fun j so _ _ _ => hno j) ?_
  · by_cases e : i = j
    · subst e
      obtain ⟨y, h1, h2, h3, _⟩ := setOp_get i so h
      obtain ⟨h4, h5⟩ := h3 rfl
      refine Or.inr ⟨hdst i so h, by simp [isEff, kindOf, h4], fun k sk hk hhard => ?_, ?_⟩
      · obtain ⟨y', q1, q2, q3, q4⟩ := setOp_get k sk hk
        have hki : k ≠ i := fun e => by obtain ⟨q5, _⟩ := q3 e; rw [q5] at hhard; simp [kindOf] at hhard
        have hk' : (setOp ss i (.pre (.tup []) args))[k]? = some y' := by
          have hlk : k < (setOp ss i (.pre (.tup []) args)).length := by rw [setOp_len]; exact (List.getElem?_eq_some_iff.1 q1).1
          obtain ⟨y2, p1, _, _, p4⟩ := setOp_get k _ (List.getElem?_eq_getElem hlk)
          rw [List.getElem?_eq_getElem hlk, p4 hki]
          rw [q1] at p1
          exact p1.symm
        have := hardOk_get hh k y' hk' (by rw [← q4 hki]; exact hhard)
        simpa using this
      · intro ρ1 nn w1 mm a1 K hm1 hg1 hJ hL hsz _ hT hK
        unfold wpOpIn
        simp only [hoj]
        rw [show Region.wanted o (yielded ops a1.tmps) = true by unfold Region.wanted; rw [hgd]]
        simp only [if_true]
        have hvals : RRels ρ1 (C 0) w1 (evOs e1 args) (c.args.toList.map a1.eval) := by
          refine evOs_pre (fun g hgl => ⟨(hG.glob g hgl).1, by rw [hL.loc g (hG.glob g hgl).1]; exact (hG.glob g hgl).2⟩) hargs (fun t ht => ?_)
          have h9 := hT t (by simp only [usesS, h4, h5]; simpa [uses] using ht)
          rw [hE1] at h9
          exact safe_rel (fun _ _ => rfl) hG.mem.lt (List.all_eq_true.1 hsa t ht) h9
        obtain ⟨_, hcs⟩ := hcall f _ _ _ _ _ _ hc ρ1 w1 _ hJ (fun g hgl => ⟨(hG.glob g hgl).1, by rw [hL.loc g (hG.glob g hgl).1]; exact (hG.glob g hgl).2⟩) hvals
        have hrun : (execOp a1.eval o).run P w1 = .ok (.enter f (c.args.toList.map a1.eval).toArray) w1 := by
          have h5 := run_callFunc (args := (c.args.toList.map a1.eval).toArray) hfn hfb hfn2 w1
          have h6 : (c.args.toList.map a1.eval).toArray = c.args.map a1.eval := by apply Array.ext'; simp
          rw [h6] at h5 ⊢
          simp [execOp, hop, resolve, hca, Act.eval, Deferred.ofValue, invoke, h5]
        refine ⟨fun f _ => Wide.fn f, ?_⟩
        rw [Oper.semAt_eq F.round a1.eval o (fun c' e => by rw [hop] at e; cases e), hrun, Oper.uponIn_enter]
        refine ⟨fun hd => absurd hd (by rw [Wide.depth]; simp), CallsIn.mono (Wide.calls hcs) fun e w' he => ?_⟩
        obtain ⟨v, ρ', rfl, hst, hv⟩ := he
        have hf : ∀ k, k < w1.heap.size → w'.heap[k]? = w1.heap[k]? := fun k hk => hst.fr.block k hk frz_own
        have L : Le ρ1 nn w1 ρ1 nn w' := ⟨Nat.le_refl _, fun _ _ => rfl, hst.le.live⟩
        have hyd : o.dst = so.dst := by
          obtain ⟨o', r1, r2⟩ := hg i y h1
          have : ops[i]? = some o' := by simpa using r1
          rw [hoj] at this
          cases this
          unfold slimOper at r2
          simp only [Option.some.injEq] at r2
          rw [h2, ← r2]
        show K (a1.put o.dst v) w'
        rw [hyd]
        refine hK v ρ1 w' ⟨L, hm1.quiet hf hst.fr.size L, hst.fr.mono (fun k hk => absurd hk frz_own), fun id b _ hb => ⟨b, hb, fun x => x⟩, fun id b q1 q2 => absurd (hm1.lt id b q2) (Nat.not_lt.2 q1)⟩ ?_
        rw [hRj so h]
        exact flat_rel hfl hv
    · refine Or.inl ?_
      obtain ⟨y, h1, h2, _, h4⟩ := setOp_get i so h
      rw [h4 e]
      obtain ⟨o', r1, r2⟩ := hg i y h1
      exact ⟨o', by simpa using r1, r2, fun dd hdd => dstsOk_get hN i y h1 dd hdd⟩
  · intro ρ' a' w' h1 h2 h3
    exact hQ ρ' a' w' (hdr.trans h1) h2 h3
  · unfold left
    rw [← hlen]
    exact Nat.le_trans List.countP_le_length (by simp)
  · cases us with
    | nil => exact absurd rfl hne
    | cons u us => exact ⟨u, by simp, hno u⟩
  · exact ⟨by simp [hlen], fun j o h => absurd h (hno j), hG.size, rfl, fun _ => 0, 0, ρ, M 0, Step.refl hdr.rel, hG.glob, fun _ _ => rfl, fun u _ h => absurd h (hno u), fun u _ _ _ h => absurd h (hno u), fun t => ⟨fun i so _ _ _ h => absurd h (hno i), fun _ => RRel.mono hdr.le _ _ (hG.env t)⟩⟩

theorem region_soundU (hcall : CallOK P ng call) (hmix : P.follows .mixedOrders = true) {id : Nat} {ops : Array Oper} {ss : List SOper} {Q : Exit → Act → World → Prop}
    (hs : slimOpers P ng md ops ops.toList = some ss) (hN : dstsOk N ss = true) {us es : List Nat} {dis : List (Nat × Nat)} {cl : List (List Nat)} (hd : dOk us dis cl ops ss = true) (hu : uOk us es cl ss = true) (hne : us ≠ []) {env env' : Nat → Reg} {m m' : Mem} {n n' : Nat} {ρ : Loc} {a : Act} {w : World}
    (hG : Good N ng ρ n w env m a) (hev : evalOps call ss env m n = some (env', m', n')) (hdis : disOk env' dis = true) (hsafe : safeOk m env' es = true)
    (hQ : ∀ ρ' a' w', Step ρ n w m ρ' n' w' m' → Good N ng ρ' n' w' env' m' a' → a'.defers = a.defers → Q .normal a' w') : (Code.region id ops true).wpIn F nf P Q a w := by
  obtain ⟨hl, hg⟩ := slimOpers_get hs
  have hM : ∀ (i : Nat) (so : SOper), ss[i]? = some so → Matches P ng N md ops i so := fun i so hi => by
    obtain ⟨o, h1, h2⟩ := hg i so hi
    exact ⟨o, by simpa using h1, h2, fun dd hdd => dstsOk_get hN i so hi dd hdd⟩
  have hlen : ss.length = ops.size := by simpa using hl
  have hc := chk_of hd hlen
  obtain ⟨E, M, C, R, e1, e2, e3, e4, e5, e6, e7⟩ := trace ss _ _ _ _ _ _ hev
  have hdr := Step.drew hG.mem
  refine wpIn_region_any hmix ?_
  subst e1; subst e2; subst e3; subst e4; subst e5; subst e6
  have hno : ∀ i, ¬ Lst (Array.replicate ops.size false) i := by
    intro i
    unfold Lst
    simp only [Array.getD_eq_getD_getElem?]
    by_cases h : i < ops.size <;> simp [h]
  refine wpAny_u (us := us) (es := es) (P := P) (ng := ng) (N := N) (md := md) (cl := cl) (ss := ss) hcall hc (hM := fun i so h => Or.inl (hM i so h)) (ρ0 := ρ) (w0 := w.drew) (d0 := a.defers) e7 hdis ?_ hu hsafe hdr.rel hG.glob ops.size _ a w.drew ?_ ?_ (fun j so _ _ _ => hno j) ?_
  · intro ρ' a' w' h1 h2 h3
    exact hQ ρ' a' w' (hdr.trans h1) h2 h3
  · unfold left
    rw [← hlen]
    exact Nat.le_trans List.countP_le_length (by simp)
  · cases us with
    | nil => exact absurd rfl hne
    | cons u us => exact ⟨u, by simp, hno u⟩
  · exact ⟨by simp [hlen], fun j o h => absurd h (hno j), hG.size, rfl, fun _ => 0, 0, ρ, M 0, Step.refl hdr.rel, hG.glob, fun _ _ => rfl, fun u _ h => absurd h (hno u), fun u _ _ _ h => absurd h (hno u), fun t => ⟨fun i so _ _ _ h => absurd h (hno i), fun _ => RRel.mono hdr.le _ _ (hG.env t)⟩⟩

/-- Code does what its slim form does. -/
def Sound (P : Program) (ng N : Nat) (call : Callf) (K : Nat) (F : Fence) (c : Code) (sc : SC) : Prop :=
  ∀ (nf : Nat) (s s' : St) (e : Ex), exec call K sc s = some (e, s') → ∀ (ρ : Loc) (a : Act) (w : World) (Q : Exit → Act → World → Prop) (B : Nat), Good N ng ρ s.n w s.e s.m a → DOk B a.defers ρ w s.m →
    (∀ ρ' a' w', Step ρ s.n w s.m ρ' s'.n w' s'.m → Good N ng ρ' s'.n w' s'.e s'.m a' → DOk B a'.defers ρ' w' s'.m → Q (toExit e) a' w') → c.wpIn F nf P Q a w
/-- The function fi is path.walk's. -/
def WalkOK (P : Program) (ng fi nd : Nat) : Prop :=
  ∀ (call : Callf), CallOK P ng call → ∀ (K N : Nat) (g : Operand) (x : O) (p1 p2 : Nat) (asg body : Code) (a b : SC), slimO ng g = some x → p1 < N → p2 < N →
    (∀ l, Sound P ng N call K (Fence.wide.inRound l) asg a) → (∀ l, Sound P ng N call K (Fence.wide.inRound l) body b) → Sound P ng N call K Fence.wide (.rangeFunc g #[p1, p2] asg body) (.walk fi nd p1 p2 x a b)

theorem exec_sound (hcall : CallOK P ng call) (hmix : P.follows .mixedOrders = true) (K : Nat) (hW : ∀ fi nd, rf = some (fi, nd) → WalkOK P ng fi nd) : ∀ (c : Code) (sc : SC), slimC P ng md cls rf N c = some sc →
    ∀ (F : Fence) [Wide F], (F.round = none ∨ noWalk sc = true) → Sound P ng N call K F c sc := by
  intro c
  induction c with
  | skip =>
    intro sc hs F _ hR nf s s' e he ρ a w Q B hG hD hQ
    simp only [slimC, Option.some.injEq] at hs
    subst hs
    simp only [exec, Option.some.injEq, Prod.mk.injEq] at he
    obtain ⟨rfl, rfl⟩ := he
    exact wpIn_skip (hQ ρ a w (Step.refl hG.mem) hG hD)
  | exit id =>
    intro sc hs F _ hR nf s s' e he ρ a w Q B hG hD hQ
    simp only [slimC, Option.some.injEq] at hs
    subst hs
    simp only [exec, Option.some.injEq, Prod.mk.injEq] at he
    obtain ⟨rfl, rfl⟩ := he
    exact wpIn_exit (hQ ρ a w (Step.refl hG.mem) hG hD)
  | ret =>
    intro sc hs F _ hR nf s s' e he ρ a w Q B hG hD hQ
    simp only [slimC, Option.some.injEq] at hs
    subst hs
    simp only [exec, Option.some.injEq, Prod.mk.injEq] at he
    obtain ⟨rfl, rfl⟩ := he
    exact wpIn_ret (hQ ρ a w (Step.refl hG.mem) hG hD)
  | region id ops d =>
    intro sc hs F _ hR nf s s' e he ρ a w Q B hG hD hQ
    simp only [slimC] at hs
    split at hs
    case h_2 => cases hs
    rename_i ss hss
    split at hs
    case h_1 =>
      rename_i j f args dis hpre
      split at hs
      case isFalse => cases hs
      rename_i hc
      simp only [Bool.and_eq_true] at hc
      obtain ⟨⟨⟨⟨h1, rfl⟩, h3⟩, h4⟩, h5⟩ := hc
      cases hs
      simp only [exec] at he
      split at he
      case h_2 => cases he
      rename_i r m1 n1 hcl
      split at he
      case isFalse => cases he
      rename_i hfl
      split at he
      case h_2 => cases he
      rename_i e' m' n' hev
      split at he
      case isFalse => cases he
      rename_i hdis
      cases he
      exact region_soundP hcall hmix hss h1 hpre h3 h4 h5 hG hcl hfl hev hdis (fun ρ' a' w' h1 h2 h3 => hQ ρ' a' w' h1 h2 (h3 ▸ hD.step h1))
    split at hs
    case h_1 =>
      rename_i j f args dis hpre
      split at hs
      case isFalse => cases hs
      rename_i hc
      simp only [Bool.and_eq_true, Bool.not_eq_true'] at hc
      obtain ⟨⟨⟨⟨⟨h1, rfl⟩, h3⟩, h4⟩, h5⟩, h6⟩ := hc
      cases hs
      simp only [exec] at he
      split at he
      case h_2 => cases he
      rename_i e1 m9 n9 hev0
      split at he
      case h_2 => cases he
      rename_i r m1 n1 hcl
      split at he
      case isFalse => cases he
      rename_i hfl
      split at he
      case h_2 => cases he
      rename_i e' m' n' hev
      split at he
      case isFalse => cases he
      rename_i hdis
      cases he
      obtain ⟨pd, hpre'⟩ : ∃ pd, preOf P ng ops pd = some (j, f, args, dis) := by
        unfold preOfU at hpre
        split at hpre
        · exact ⟨_, hpre⟩
        · cases hpre
      exact region_soundPU hcall hmix hss h1 hpre' h3 h4 (by intro h; rw [h] at h5; cases h5) h6 hG hev0 hfl.2 hcl hfl.1 hev hdis.1 hdis.2 (fun ρ' a' w' h1 h2 h3 => hQ ρ' a' w' h1 h2 (h3 ▸ hD.step h1))
    split at hs
    case isFalse =>
      split at hs
      case isFalse => cases hs
      rename_i hc
      simp only [Bool.and_eq_true, Bool.not_eq_true'] at hc
      obtain ⟨⟨⟨⟨h1, rfl⟩, h3⟩, h4⟩, h5⟩ := hc
      cases hs
      simp only [exec] at he
      split at he
      case h_2 => cases he
      rename_i e' m' n' hev
      split at he
      case isFalse => cases he
      rename_i hdis
      cases he
      exact region_soundU hcall hmix hss h1 h3 h4 (by intro h; rw [h] at h5; cases h5) hG hev hdis.1 hdis.2 (fun ρ' a' w' h1 h2 h3 => hQ ρ' a' w' h1 h2 (h3 ▸ hD.step h1))
    rename_i hc
    simp only [Bool.and_eq_true, Bool.or_eq_true, Bool.not_eq_true'] at hc
    have hd : d = true → dOk [] (cls id).2 (cls id).1 ops ss = true := fun hd => hc.2.resolve_left (by simp [hd])
    split at hs
    · rename_i x xs hx
      cases hs
      simp only [exec] at he
      split at he
      case h_2 => cases he
      rename_i e' m' n' hev
      split at he
      case isFalse => cases he
      rename_i hdis
      cases he
      exact region_sound hcall hmix hss hc.1 hd hG hev (fun _ => by rw [hx]; exact hdis) (fun ρ' a' w' h1 h2 h3 => hQ ρ' a' w' h1 h2 (h3 ▸ hD.step h1))
    · rename_i hx
      cases hs
      simp only [exec] at he
      split at he
      case h_2 => cases he
      rename_i e' m' n' hev
      cases he
      refine region_sound hcall hmix hss hc.1 hd hG hev (fun hdt => ?_) (fun ρ' a' w' h1 h2 h3 => hQ ρ' a' w' h1 h2 (h3 ▸ hD.step h1))
      cases hcl : (cls id).2 with
      | nil => rfl
      | cons x xs => exact absurd hcl (hx x xs hdt)
  | seq x y ihx ihy =>
    intro sc hs F _ hR nf s s' e he ρ a w Q B hG hD hQ
    simp only [slimC] at hs
    split at hs
    case h_2 => cases hs
    rename_i sx sy h1 h2
    cases hs
    simp only [exec] at he
    refine wpIn_seq ?_
    split at he
    · rename_i s1 h3
      refine ihx sx h1 F (hR.imp id (fun h => (Bool.and_eq_true _ _ ▸ h).1)) nf s s1 .n h3 ρ a w _ B hG hD (fun ρ' a' w' h4 h5 h6 => ?_)
      refine ihy sy h2 F (hR.imp id (fun h => (Bool.and_eq_true _ _ ▸ h).2)) nf s1 s' e he ρ' a' w' Q B h5 h6 (fun ρ'' a'' w'' h7 h8 h9 => hQ ρ'' a'' w'' (h4.trans h7) h8 h9)
    · rename_i hne
      refine ihx sx h1 F (hR.imp id (fun h => (Bool.and_eq_true _ _ ▸ h).1)) nf s s' e he ρ a w _ B hG hD (fun ρ' a' w' h4 h5 h6 => ?_)
      cases e with
      | n => exact absurd he (hne s')
      | x id => exact hQ ρ' a' w' h4 h5 h6
      | r => exact hQ ρ' a' w' h4 h5 h6
  | cond c x y ihx ihy =>
    intro sc hs F _ hR nf s s' e he ρ a w Q B hG hD hQ
    simp only [slimC] at hs
    split at hs
    case h_2 => cases hs
    rename_i z sx sy h0 h1 h2
    cases hs
    simp only [exec] at he
    split at he
    case h_2 => cases he
    rename_i t ht
    have hv := evO_rel h0 hG.glob hG.env
    rw [ht] at hv
    have hv := sc_inv hv
    refine wpIn_cond hv ?_
    cases t
    · exact ihy sy h2 F (hR.imp id (fun h => (Bool.and_eq_true _ _ ▸ h).2)) nf s s' e he ρ a w Q B hG hD hQ
    · exact ihx sx h1 F (hR.imp id (fun h => (Bool.and_eq_true _ _ ▸ h).1)) nf s s' e he ρ a w Q B hG hD hQ
  | block id b ih =>
    intro sc hs F _ hR nf s s' e he ρ a w Q B hG hD hQ
    simp only [slimC] at hs
    obtain ⟨sb, h1, rfl⟩ := Option.map_eq_some_iff.1 hs
    simp only [exec] at he
    refine wpIn_block ?_
    split at he
    · rename_i i s1 h3
      refine ih sb h1 F hR nf s s1 (.x i) h3 ρ a w _ B hG hD (fun ρ' a' w' h4 h5 h6 => ?_)
      simp only [toExit, Exit.inBlock]
      split at he
      · rename_i hi
        cases he
        rw [if_pos hi]
        exact hQ ρ' a' w' h4 h5 h6
      · rename_i hi
        cases he
        rw [if_neg hi]
        exact hQ ρ' a' w' h4 h5 h6
    · rename_i hne
      refine ih sb h1 F hR nf s s' e he ρ a w _ B hG hD (fun ρ' a' w' h4 h5 h6 => ?_)
      cases e with
      | n => exact hQ ρ' a' w' h4 h5 h6
      | x i => exact absurd he (hne i s')
      | r => exact hQ ρ' a' w' h4 h5 h6
  | loop b ih =>
    intro sc hs F _ hR nf s s' e he ρ a w Q B hG hD hQ
    simp only [slimC] at hs
    obtain ⟨sb, h1, rfl⟩ := Option.map_eq_some_iff.1 hs
    simp only [exec] at he
    refine wpIn_loop_rounds K ?_
    have key : ∀ (k : Nat) (s : St) (ρ : Loc) (a : Act) (w : World), iter (exec call K sb) k s = some (e, s') → Good N ng ρ s.n w s.e s.m a → DOk B a.defers ρ w s.m →
        (∀ ρ' a' w', Step ρ s.n w s.m ρ' s'.n w' s'.m → Good N ng ρ' s'.n w' s'.e s'.m a' → DOk B a'.defers ρ' w' s'.m → Q (toExit e) a' w') → Code.roundsIn F nf P b Q k a w := by
      intro k
      induction k with
      | zero => intro s ρ a w hi; simp [iter] at hi
      | succ k ihk =>
        intro s ρ a w hi hG hD hQ
        simp only [iter] at hi
        rw [roundsIn_succ]
        split at hi
        · rename_i s1 h3
          refine ih sb h1 F hR nf s s1 .n h3 ρ a w _ B hG hD (fun ρ' a' w' h4 h5 h6 => ?_)
          exact ihk s1 ρ' a' w' hi h5 h6 (fun ρ'' a'' w'' h7 h8 h9 => hQ ρ'' a'' w'' (h4.trans h7) h8 h9)
        · rename_i hne
          refine ih sb h1 F hR nf s s' e hi ρ a w _ B hG hD (fun ρ' a' w' h4 h5 h6 => ?_)
          cases e with
          | n => exact absurd hi (hne s')
          | x id => exact hQ ρ' a' w' h4 h5 h6
          | r => exact hQ ρ' a' w' h4 h5 h6
    exact key K s ρ a w he hG hD hQ
  | rangeFunc g ps a b iha ihb =>
    intro sc hs F hF hR
    simp only [slimC] at hs
    split at hs
    case h_2 => cases hs
    rename_i x a' b' p1 p2 fi nd h0 hps h1 h2
    split at hs
    case isFalse => cases hs
    rename_i hc
    cases hs
    have hFw : F = Fence.wide := by
      rcases hF.out with h | ⟨l, h⟩
      · exact h
      · rcases hR with hR | hR
        · rw [h] at hR; cases hR
        · cases hR
    subst hFw
    have hps' : ps = #[p1, p2] := Array.ext' (by simpa using hps)
    subst hps'
    exact hW fi nd rfl call hcall K N g x p1 p2 a b a' b' h0 hc.1 hc.2.1 (fun l => iha a' h1 _ (Or.inr hc.2.2.1)) (fun l => ihb b' h2 _ (Or.inr hc.2.2.2))
  | _ => intro sc hs; simp [slimC] at hs

def resF (tmps : Array Value) : ResultVar → Sem Value
  | .tmp t => pure (tmps.getD t undef)
  | .cell a t => do loadVar t (← asAddr (tmps.getD a undef))

theorem results_eq (fn : Func) (tmps : Array Value) : results fn tmps = (do let vs ← fn.results.mapM (resF tmps); pure (if h : vs.size = 1 then vs[0] else .tuple vs)) := by
  unfold results
  rfl

theorem results_rel : ∀ {rs : List ResultVar} {xs : List SRes} {s : St} {regs : List Reg} {ρ : Loc} {w : World} {a : Act}, slimRes P rs = some xs → evRes s xs = some regs → Good N ng ρ s.n w s.e s.m a →
    ∃ vs : List Value, (rs.mapM (resF a.tmps)).run P w = .ok vs w ∧ RRels ρ s.n w regs vs
  | [], xs, s, regs, ρ, w, a, hs, he, hG => by
    simp only [slimRes, Option.some.injEq] at hs
    subst hs
    simp only [evRes, Option.some.injEq] at he
    subst he
    exact ⟨[], rfl, by simp [RRels]⟩
  | .tmp t :: rs, xs, s, regs, ρ, w, a, hs, he, hG => by
    simp only [slimRes] at hs
    obtain ⟨ys, h1, rfl⟩ := Option.map_eq_some_iff.1 hs
    simp only [evRes] at he
    obtain ⟨rgs, h2, rfl⟩ := Option.map_eq_some_iff.1 he
    obtain ⟨vs, h3, h4⟩ := results_rel h1 h2 hG
    refine ⟨a.tmps.getD t undef :: vs, ?_, ?_⟩
    · have e1 : (resF a.tmps (.tmp t)).run P w = .ok (a.tmps.getD t undef) w := rfl
      simp only [List.mapM_cons, Sem.run_bind, e1, Sem.run_pure, Result.andThen_ok, h3]
    · simp only [RRels]; exact ⟨_, _, rfl, hG.env t, h4⟩
  | .cell x t :: rs, xs, s, regs, ρ, w, a, hs, he, hG => by
    simp only [slimRes] at hs
    split at hs
    · rename_i k ys hag hsz h1
      cases hs
      simp only [evRes] at he
      split at he
      case h_2 => cases he
      rename_i id off hp
      split at he
      case h_2 => cases he
      rename_i cs hc
      obtain ⟨rgs, h2, rfl⟩ := Option.map_eq_some_iff.1 he
      obtain ⟨vs, h3, h4⟩ := results_rel h1 h2 hG
      have h5 := hG.env x
      rw [hp] at h5
      obtain ⟨_, h6⟩ := ptr_inv h5
      obtain ⟨us, h7, h8, h9, h10⟩ := run_loadCells_rd (P := P) hG.mem hc
      refine ⟨.agg us.toArray :: vs, ?_, ?_⟩
      · have e1 : (resF a.tmps (.cell x t)).run P w = .ok (.agg us.toArray) w := by simp [resF, h6, asAddr, loadVar, run_isAgg_tagg hag, run_sizeOf_tsz hsz, h10]
        simp only [List.mapM_cons, Sem.run_bind, e1, Sem.run_pure, Result.andThen_ok, h3]
      · simp only [RRels, RRel]; exact ⟨_, _, rfl, ⟨us, rfl, h7⟩, h4⟩
    · rename_i k ys hag hsz h1
      cases hs
      simp only [evRes] at he
      split at he
      case h_2 => cases he
      rename_i id off hp
      split at he
      case h_2 => cases he
      rename_i b hb
      split at he
      case h_2 => cases he
      rename_i c hc
      obtain ⟨rgs, h2, rfl⟩ := Option.map_eq_some_iff.1 he
      obtain ⟨vs, h3, h4⟩ := results_rel h1 h2 hG
      have h5 := hG.env x
      rw [hp] at h5
      obtain ⟨_, h6⟩ := ptr_inv h5
      obtain ⟨v, h7, h8⟩ := hG.mem.cells id b hb off c hc
      refine ⟨v :: vs, ?_, ?_⟩
      · have e1 : (resF a.tmps (.cell x t)).run P w = .ok v w := by simp [resF, h6, asAddr, loadVar, run_isAgg_tagg hag, h7]
        simp only [List.mapM_cons, Sem.run_bind, e1, Sem.run_pure, Result.andThen_ok, h3]
      · simp only [RRels, RRel]; exact ⟨_, _, rfl, h8, h4⟩
    · cases hs

theorem pack_rel {regs : List Reg} {vs : List Value} {ρ : Loc} {n : Nat} {w : World} (h : RRels ρ n w regs vs) : RRel ρ n w (pack regs) (if h : vs.toArray.size = 1 then vs.toArray[0] else .tuple vs.toArray) := by
  have hl := RRels.length _ _ h
  match regs, h, hl with
  | [r], h, hl =>
    simp only [RRels] at h
    obtain ⟨v, us, rfl, h1, rfl⟩ := h
    simpa [pack] using h1
  | [], h, hl =>
    simp only [RRels] at h
    subst h
    simp only [pack, RRel]
    exact ⟨[], by simp, by simp [RRels]⟩
  | r1 :: r2 :: rs, h, hl =>
    have : ¬ vs.toArray.size = 1 := by simp at hl ⊢; omega
    rw [dif_neg this]
    simp only [pack, RRel]
    exact ⟨vs, rfl, h⟩

theorem leavesM {fn : Func} {xs : List SRes} {s : St} {regs : List Reg} {ρ ρ' : Loc} {n : Nat} {w : World} {m : Mem} {f : Nat} (hfn : P.funcs[f]? = some fn) (h2 : slimRes P fn.results.toList = some xs) (hr : evRes s xs = some regs) : ∀ (ds : List Deferred) (a' : Act) (w' : World),
    Step ρ n w m ρ' s.n w' s.m → Good N ng ρ' s.n w' s.e s.m a' → DOk w.heap.size ds ρ' w' s.m → LeavesInM Fence.wide 0 P fn a'.tmps (fun e w' => ∃ v ρ', e = .returned v ∧ Step ρ n w m ρ' s.n w' s.m ∧ RRel ρ' s.n w' (pack regs) v) ds .returning w'
  | [], a', w', h3, h4, h5 => by
    obtain ⟨us, h6, h7⟩ := results_rel h2 hr h4
    have hres : (results fn a'.tmps).run P w' = .ok (if h : us.toArray.size = 1 then us.toArray[0] else .tuple us.toArray) w' := by
      rw [results_eq, Array.mapM_eq_mapM_toList]
      simp [h6]
    exact ⟨_, hres, _, ρ', rfl, h3, pack_rel h7⟩
  | d :: ds, a', w', h3, h4, h5 => by
    obtain ⟨hB, hnd, hd⟩ := h5
    obtain ⟨D, rfl, q1, q2, q3⟩ := hd d (by simp)
    have L : Le ρ' s.n w' ρ' s.n (w'.putObj D (.deferred none)) := Le.put q2 rfl rfl
    refine ⟨by simp, Or.inl ⟨D, w'.putObj D (.deferred none), rfl, run_takeDeferred q2, leavesM hfn h2 hr ds a' _ (h3.put q1 q2 rfl rfl) ⟨h4.mem.put q2 rfl rfl, h4.glob, h4.env.mono L, h4.size⟩ ⟨by rw [World.putObj_size]; exact hB, (List.nodup_cons.1 hnd).2, fun d' hd' => ?_⟩⟩⟩
    obtain ⟨D', rfl, r1, r2, r3⟩ := hd d' (by simp [hd'])
    refine ⟨D', rfl, r1, ?_, r3⟩
    rw [World.putObj_heap_other (fun e => (List.nodup_cons.1 hnd).1 (by rw [← e]; exact hd'))]
    exact r2

/-- What a told function does, the machine's does. -/
def NatOK (P : Program) (ng f : Nat) (g : List Reg → Mem → Nat → Option (Reg × Mem × Nat)) : Prop :=
  ∀ args m n r m' n', g args m n = some (r, m', n') → ∀ ρ w vs, MRel ρ n w m → Glob ng ρ n → RRels ρ n w args vs →
    (∃ fn, P.funcs[f]? = some fn ∧ fn.body.isSome = true ∧ (fn.name == "runtime.NumGoroutine") = false) ∧
    Calls P f vs.toArray w (fun e w' => ∃ v ρ', e = .returned v ∧ Step ρ n w m ρ' n' w' m' ∧ RRel ρ' n' w' r v)

/-- A table's entry stands for the machine's function. -/
def FunOK (P : Program) (ng : Nat) (md : Nat → Mode) (cls : Nat → List (List Nat) × List (Nat × Nat)) (rf : Option (Nat × Nat)) (f : Nat) (sf : SFun) : Prop :=
  (∃ fn, P.funcs[f]? = some fn ∧ slimF P ng md cls rf fn = some sf) ∨ (∃ g, sf.nat = some g ∧ NatOK P ng f g)

theorem run_ok {T : Nat → Option SFun} (hmix : P.follows .mixedOrders = true) {mds : Nat → Nat → Mode} {clss : Nat → Nat → List (List Nat) × List (Nat × Nat)} {rf : Option (Nat × Nat)} (hW : ∀ fi nd, rf = some (fi, nd) → WalkOK P ng fi nd)
    (hT : ∀ f sf, T f = some sf → FunOK P ng (mds f) (clss f) rf f sf) : ∀ k, CallOK P ng (run T k)
  | 0 => by intro f args m n r m' n' h; simp [run] at h
  | k + 1 => by
    intro f args m n r m' n' h ρ w vs hm hg hargs
    have hcall := run_ok hmix hW hT k
    simp only [run] at h
    split at h
    case h_1 => cases h
    rename_i sf hsf
    rcases hT f sf hsf with ⟨fn, hfn, hsl⟩ | ⟨g, hg1, hg2⟩
    case inr => rw [hg1] at h; exact hg2 args m n r m' n' h ρ w vs hm hg hargs
    have hnat : sf.nat = none := by
      unfold slimF at hsl
      split at hsl
      case isTrue => cases hsl
      split at hsl
      case h_1 => cases hsl
      split at hsl
      case h_2 => cases hsl
      cases hsl
      rfl
    rw [hnat] at h
    simp only at h
    split at h
    case isFalse => cases h
    rename_i hlen
    unfold slimF at hsl
    split at hsl
    case isTrue => cases hsl
    rename_i hname
    split at hsl
    case h_1 => cases hsl
    rename_i c hbody
    split at hsl
    case h_2 => cases hsl
    rename_i sc rs h1 h2
    cases hsl
    refine ⟨⟨fn, hfn, by rw [hbody]; rfl, by simpa using hname⟩, ?_⟩
    simp only at h hlen
    have hl := RRels.length _ _ hargs
    have hev : ∃ (e : Ex) (s : St) (regs : List Reg), (e = .n ∨ e = .r) ∧ exec (run T k) k sc ⟨fun t => args.getD t (.tup []), m, n⟩ = some (e, s) ∧ evRes s rs = some regs ∧ r = pack regs ∧ m' = s.m ∧ n' = s.n := by
      split at h
      · rename_i s hs
        split at h
        case h_2 => cases h
        rename_i regs hr
        cases h
        exact ⟨_, s, regs, Or.inl rfl, hs, hr, rfl, rfl, rfl⟩
      · rename_i s hs
        split at h
        case h_2 => cases h
        rename_i regs hr
        cases h
        exact ⟨_, s, regs, Or.inr rfl, hs, hr, rfl, rfl, rfl⟩
      · cases h
    obtain ⟨e, s, regs, he, hs, hr, rfl, rfl, rfl⟩ := hev
    refine callsIn_wide.1 (callsIn_of_wp_marks (n := 0) hfn hbody trivial ?_)
    have hsz : (vs.toArray ++ Array.replicate (fn.ntmps - vs.toArray.size) undef).size = fn.ntmps := by simp; omega
    have hG : Good fn.ntmps ng ρ n w (fun t => args.getD t (.tup [])) m { tmps := vs.toArray ++ Array.replicate (fn.ntmps - vs.toArray.size) undef, defers := [] } := by
      refine ⟨hm, hg, fun t => ?_, hsz⟩
      rcases Nat.lt_or_ge t args.length with ht | ht
      · obtain ⟨v, h3, h4⟩ := RRels.get _ _ hargs t args[t] (List.getElem?_eq_getElem ht)
        have htv : t < vs.length := by omega
        simp only [List.getD_eq_getElem?_getD, List.getElem?_eq_getElem ht, Option.getD_some, Array.getD_eq_getD_getElem?]
        rw [Array.getElem?_append_left (by simpa using htv)]
        simpa [h3] using h4
      · simp only [List.getD_eq_getElem?_getD, List.getElem?_eq_none ht, Option.getD_none, Array.getD_eq_getD_getElem?]
        rw [Array.getElem?_append_right (by simp; omega)]
        have : ((Array.replicate (fn.ntmps - vs.toArray.size) undef)[t - vs.toArray.size]?).getD undef = undef := by
          by_cases hh : t - vs.toArray.size < fn.ntmps - vs.toArray.size
          · simp only [List.size_toArray] at hh; simp [hh]
          · simp only [List.size_toArray] at hh; simp [hh]
        rw [this]
        exact undef_rel
    refine exec_sound hcall hmix k hW c sc h1 Fence.wide (Or.inl rfl) 0 _ s e hs ρ _ w _ w.heap.size hG (DOk.nil (Nat.le_refl _)) (fun ρ' a' w' h3 h4 h5 => ?_)
    have hl : LeavesInM Fence.wide 0 P fn a'.tmps (fun e w' => ∃ v ρ', e = .returned v ∧ Step ρ n w m ρ' s.n w' s.m ∧ RRel ρ' s.n w' (pack regs) v) a'.defers .returning w' := by
      refine leavesM hfn h2 hr a'.defers a' w' h3 h4 h5
    rcases he with rfl | rfl <;> exact hl
end
end Go.Proofs.Ytkdbnmohpanpfaa.Sy

/- An evaluator of a part of Go's operations over a memory of its own, part fifteen: rules for the evaluator, without a bound on its rounds. Conditions: those that each theorem names. -/
namespace Go.Proofs.Ytkdbnmohpanpfaa.Sy
open Go
set_option linter.unusedVariables false
set_option linter.unusedSimpArgs false

def CallLe (c1 c2 : Callf) : Prop := ∀ f a m n x, c1 f a m n = some x → c2 f a m n = some x

section
variable {c1 c2 : Callf}
theorem doCall_mono (h : CallLe c1 c2) {md : Mode} {f : Nat} {a : List Reg} {m : Mem} {n : Nat} {x : Reg × Mem × Nat} (hx : doCall c1 md f a m n = some x) : doCall c2 md f a m n = some x := by
  unfold doCall at hx ⊢
  cases md with
  | q =>
    simp only at hx ⊢
    split at hx
    case h_2 => cases hx
    rename_i r m1 n1 h1
    rw [h _ _ _ _ _ h1]
    exact hx
  | k =>
    simp only at hx ⊢
    split at hx
    case h_2 => cases hx
    rename_i r m1 n1 h1
    rw [h _ _ _ _ _ h1]
    exact hx
  | w => exact h _ _ _ _ _ hx
  | t =>
    simp only at hx ⊢
    split at hx
    case h_2 => cases hx
    rename_i b hb
    split at hx
    case isFalse => cases hx
    rename_i hf
    rw [if_pos hf]
    split at hx
    case h_2 => cases hx
    rename_i r m1 n1 h1
    rw [h _ _ _ _ _ h1]
    exact hx
  | z g =>
    simp only at hx ⊢
    split at hx
    case isFalse => cases hx
    rename_i hf
    rw [if_pos hf]
    split at hx
    case h_2 => cases hx
    rename_i r m1 n1 h1
    rw [h _ _ _ _ _ h1]
    exact hx

theorem evalOp_mono (h : CallLe c1 c2) {so : SOp} {env : Nat → Reg} {m : Mem} {n : Nat} {x : Reg × Mem × Nat} (hx : evalOp c1 env m n so = some x) : evalOp c2 env m n so = some x := by
  cases so with
  | call md f a => simp only [evalOp] at hx ⊢; exact doCall_mono h hx
  | callv md f a =>
    simp only [evalOp] at hx ⊢
    split at hx
    case h_2 => cases hx
    rename_i hp
    exact doCall_mono h hx
  | eqnil k neg x =>
    match k with
    | 0 => simpa only [evalOp] using hx
    | 1 => simpa only [evalOp] using hx
    | 2 => simpa only [evalOp] using hx
    | k + 3 => simp only [evalOp] at hx; cases hx
  | _ => simpa only [evalOp] using hx

theorem evalOps_mono (h : CallLe c1 c2) : ∀ {os : List SOper} {env : Nat → Reg} {m : Mem} {n : Nat} {x : (Nat → Reg) × Mem × Nat}, evalOps c1 os env m n = some x → evalOps c2 os env m n = some x
  | [], env, m, n, x, hx => by simpa only [evalOps] using hx
  | o :: os, env, m, n, x, hx => by
    simp only [evalOps] at hx ⊢
    split at hx
    · rename_i hw
      split at hx
      case h_2 => cases hx
      rename_i r m1 n1 h1
      rw [evalOp_mono h h1]
      exact evalOps_mono h hx
    · rename_i hw
      exact evalOps_mono h hx

theorem walkGo_mono (h : CallLe c1 c2) {nd fb id off : Nat} {B1 B2 : List Cell → List Cell → Mem → Nat → Option (Mem × Nat)} (hB : ∀ fr cs m n x, B1 fr cs m n = some x → B2 fr cs m n = some x) :
    ∀ (k i : Nat) (m : Mem) (n : Nat) (x : Mem × Nat), walkGo c1 nd B1 fb id off k i m n = some x → walkGo c2 nd B2 fb id off k i m n = some x
  | 0, i, m, n, x, hx => hx
  | k + 1, i, m, n, x, hx => by
    simp only [walkGo] at hx ⊢
    split at hx
    case h_2 => cases hx
    rename_i cs fr h1 h2
    split at hx
    case h_2 => cases hx
    rename_i m1 n1 h3
    rw [hB _ _ _ _ _ h3]
    simp only
    split at hx
    case h_2 => cases hx
    rename_i c h4
    split at hx
    case h_2 => cases hx
    rename_i d m2 n2 h5
    rw [doCall_mono h h5]
    simp only
    split at hx
    · rename_i hd
      rw [if_pos hd]
      split at hx
      case isFalse => cases hx
      rename_i hd3
      rw [if_pos hd3]
      split at hx
      case h_2 => cases hx
      rename_i q h6
      split at hx
      case h_2 => cases hx
      rename_i m3 h7
      exact walkGo_mono h hB k (i + 1) _ _ x hx
    · rename_i hd
      rw [if_neg hd]
      exact walkGo_mono h hB k (i + 1) _ _ x hx

theorem exec_mono (h : CallLe c1 c2) {K1 K2 : Nat} (hK : K1 ≤ K2) : ∀ {c : SC} {s : St} {x : Ex × St}, exec c1 K1 c s = some x → exec c2 K2 c s = some x := by
  intro c
  induction c with
  | skip => intro s x hx; simpa only [exec] using hx
  | exit id => intro s x hx; simpa only [exec] using hx
  | ret => intro s x hx; simpa only [exec] using hx
  | reg os =>
    intro s x hx
    simp only [exec] at hx ⊢
    split at hx
    case h_2 => cases hx
    rename_i e m n h1
    rw [evalOps_mono h h1]
    exact hx
  | dreg dis os =>
    intro s x hx
    simp only [exec] at hx ⊢
    split at hx
    case h_2 => cases hx
    rename_i e m n h1
    rw [evalOps_mono h h1]
    exact hx
  | ureg es dis os =>
    intro s x hx
    simp only [exec] at hx ⊢
    split at hx
    case h_2 => cases hx
    rename_i e m n h1
    rw [evalOps_mono h h1]
    exact hx
  | preg j f args dis os =>
    intro s x hx
    simp only [exec] at hx ⊢
    split at hx
    case h_2 => cases hx
    rename_i r m0 n0 h0
    rw [h _ _ _ _ _ h0]
    simp only
    split at hx
    case isFalse => cases hx
    rename_i hf
    rw [if_pos hf]
    split at hx
    case h_2 => cases hx
    rename_i e m n h1
    rw [evalOps_mono h h1]
    exact hx
  | pureg j f args es dis os =>
    intro s x hx
    simp only [exec] at hx ⊢
    split at hx
    case h_2 => cases hx
    rename_i e1 m9 n9 h9
    rw [evalOps_mono h h9]
    simp only
    split at hx
    case h_2 => cases hx
    rename_i r m0 n0 h0
    rw [h _ _ _ _ _ h0]
    simp only
    split at hx
    case isFalse => cases hx
    rename_i hf
    rw [if_pos hf]
    split at hx
    case h_2 => cases hx
    rename_i e m n h1
    rw [evalOps_mono h h1]
    exact hx
  | seq a b iha ihb =>
    intro s x hx
    simp only [exec] at hx ⊢
    cases h1 : exec c1 K1 a s with
    | none => rw [h1] at hx; cases hx
    | some y =>
      rw [iha h1]
      rw [h1] at hx
      obtain ⟨e, s'⟩ := y
      cases e with
      | n => exact ihb hx
      | x id => exact hx
      | r => exact hx
  | cond c a b iha ihb =>
    intro s x hx
    simp only [exec] at hx ⊢
    split at hx
    case h_2 => cases hx
    rename_i t ht
    cases t
    · exact ihb hx
    · exact iha hx
  | block id b ih =>
    intro s x hx
    simp only [exec] at hx ⊢
    cases h1 : exec c1 K1 b s with
    | none => rw [h1] at hx; cases hx
    | some y =>
      rw [ih h1]
      rw [h1] at hx
      exact hx
  | loop b ih =>
    intro s x hx
    simp only [exec] at hx ⊢
    have key : ∀ (k1 k2 : Nat) (s : St), k1 ≤ k2 → iter (exec c1 K1 b) k1 s = some x → iter (exec c2 K2 b) k2 s = some x := by
      intro k1
      induction k1 with
      | zero => intro k2 s _ hi; simp [iter] at hi
      | succ k1 ihk =>
        intro k2 s hle hi
        obtain ⟨k2, rfl⟩ : ∃ k, k2 = k + 1 := ⟨k2 - 1, by omega⟩
        simp only [iter] at hi ⊢
        cases h1 : exec c1 K1 b s with
        | none => rw [h1] at hi; cases hi
        | some y =>
          rw [ih h1]
          rw [h1] at hi
          obtain ⟨e, s'⟩ := y
          cases e with
          | n => exact ihk k2 s' (by omega) hi
          | x id => exact hi
          | r => exact hi
    exact key K1 K2 s hK hx
  | walk fi nd p1 p2 o a b iha ihb =>
    intro s x hx
    simp only [exec] at hx ⊢
    split at hx
    case h_2 => cases hx
    rename_i f bx hp
    split at hx
    case isFalse => cases hx
    rename_i hf
    rw [if_pos hf]
    split at hx
    case h_2 => cases hx
    rename_i c hc
    split at hx
    case h_2 => cases hx
    rename_i id off len hs
    split at hx
    case h_2 => cases hx
    rename_i m' n' hw
    rw [walkGo_mono h (fun fr cs m n y hy => ?_) _ _ _ _ _ hw]
    · exact hx
    · unfold walkB at hy ⊢
      split at hy
      case h_2 => cases hy
      rename_i s1 h1
      rw [iha h1]
      simp only
      split at hy
      case h_2 => cases hy
      rename_i s2 h2
      rw [ihb h2]
      exact hy
end

theorem run_succ {T : Nat → Option SFun} : ∀ k, CallLe (run T k) (run T (k + 1))
  | 0 => fun f a m n x h => by simp [run] at h
  | k + 1 => fun f a m n x h => by
    rw [run] at h ⊢
    cases hT : T f with
    | none => simp only [hT] at h; cases h
    | some fn =>
      simp only [hT] at h ⊢
      cases hn : fn.nat with
      | some g => simp only [hn] at h ⊢; exact h
      | none =>
      simp only [hn] at h ⊢
      split at h
      case isFalse => cases h
      rename_i hl
      rw [if_pos hl]
      cases h1 : exec (run T k) k fn.body ⟨fun t => a.getD t (.tup []), m, n⟩ with
      | none => rw [h1] at h; cases h
      | some y =>
        rw [h1] at h
        rw [exec_mono (run_succ k) (Nat.le_succ k) h1]
        exact h

theorem run_mono {T : Nat → Option SFun} {k k' : Nat} (h : k ≤ k') : CallLe (run T k) (run T k') := by
  induction h with
  | refl => exact fun _ _ _ _ _ h => h
  | step _ ih => exact fun f a m n x hx => run_succ _ f a m n x (ih f a m n x hx)

/-- A function, called: what comes out. -/
def Fn (T : Nat → Option SFun) (f : Nat) (a : List Reg) (m : Mem) (n : Nat) (Q : Reg → Mem → Nat → Prop) : Prop :=
  ∃ k r m' n', run T k f a m n = some (r, m', n') ∧ Q r m' n'
/-- Code. -/
def X (T : Nat → Option SFun) (c : SC) (s : St) (Q : Ex → St → Prop) : Prop :=
  ∃ k e s', exec (run T k) k c s = some (e, s') ∧ Q e s'
/-- A row of operations. -/
def R (T : Nat → Option SFun) (os : List SOper) (env : Nat → Reg) (m : Mem) (n : Nat) (Q : (Nat → Reg) → Mem → Nat → Prop) : Prop :=
  ∃ k e m' n', evalOps (run T k) os env m n = some (e, m', n') ∧ Q e m' n'

section
variable {T : Nat → Option SFun}

theorem Fn.mono {f : Nat} {a : List Reg} {m : Mem} {n : Nat} {Q Q' : Reg → Mem → Nat → Prop} (h : Fn T f a m n Q) (hq : ∀ r m n, Q r m n → Q' r m n) : Fn T f a m n Q' := by
  obtain ⟨k, r, m', n', h1, h2⟩ := h
  exact ⟨k, r, m', n', h1, hq _ _ _ h2⟩
theorem X.mono {c : SC} {s : St} {Q Q' : Ex → St → Prop} (h : X T c s Q) (hq : ∀ e s, Q e s → Q' e s) : X T c s Q' := by
  obtain ⟨k, e, s', h1, h2⟩ := h
  exact ⟨k, e, s', h1, hq _ _ h2⟩

theorem R_nil {env : Nat → Reg} {m : Mem} {n : Nat} {Q : (Nat → Reg) → Mem → Nat → Prop} : R T [] env m n Q = Q env m n := by
  apply propext
  constructor
  · rintro ⟨k, e, m', n', h1, h2⟩
    simp only [evalOps, Option.some.injEq, Prod.mk.injEq] at h1
    obtain ⟨rfl, rfl, rfl⟩ := h1
    exact h2
  · intro h
    exact ⟨0, env, m, n, rfl, h⟩

def noCall : Callf := fun _ _ _ _ => none
def isCall : SOp → Bool
  | .call .. | .callv .. => true
  | _ => false

theorem evalOp_noCall {c : Callf} {so : SOp} {env : Nat → Reg} {m : Mem} {n : Nat} (h : isCall so = false) : evalOp c env m n so = evalOp noCall env m n so := by
  cases so with
  | call md f a => simp [isCall] at h
  | callv md f a => simp [isCall] at h
  | eqnil k neg x =>
    match k with
    | 0 => simp only [evalOp]
    | 1 => simp only [evalOp]
    | 2 => simp only [evalOp]
    | k + 3 => simp only [evalOp]
  | _ => simp only [evalOp]

/-- What a step hands on. -/
def Then (T : Nat → Option SFun) (d : Option Nat) (os : List SOper) (env : Nat → Reg) (Q : (Nat → Reg) → Mem → Nat → Prop) : Option (Reg × Mem × Nat) → Prop
  | some (r, m', n') => R T os (putE env d r) m' n' Q
  | none => False

theorem R_op {d : Option Nat} {op : SOp} {os : List SOper} {env : Nat → Reg} {m : Mem} {n : Nat} {Q : (Nat → Reg) → Mem → Nat → Prop} (hc : isCall op = false) :
    R T (⟨d, op, none⟩ :: os) env m n Q = Then T d os env Q (evalOp noCall env m n op) := by
  apply propext
  constructor
  · rintro ⟨k, e, m', n', h1, h2⟩
    simp only [evalOps, wantedS] at h1
    rw [evalOp_noCall hc] at h1
    split at h1
    case h_2 => cases h1
    rename_i r m1 n1 h3
    rw [h3]
    exact ⟨k, e, m', n', h1, h2⟩
  · intro h
    cases h3 : evalOp noCall env m n op with
    | none => rw [h3] at h; exact h.elim
    | some y =>
      obtain ⟨r, m1, n1⟩ := y
      rw [h3] at h
      obtain ⟨k, e, m', n', h1, h2⟩ := h
      refine ⟨k, e, m', n', ?_, h2⟩
      simp only [evalOps, wantedS]
      rw [evalOp_noCall hc, h3]
      exact h1

theorem R_guard {d : Option Nat} {op : SOp} {t : Nat} {b : Bool} {os : List SOper} {env : Nat → Reg} {m : Mem} {n : Nat} {Q : (Nat → Reg) → Mem → Nat → Prop} :
    R T (⟨d, op, some (some t, b)⟩ :: os) env m n Q = (if boolOf (env t) = some b then R T (⟨d, op, none⟩ :: os) env m n Q else R T os (putE env d (.tup [])) m n Q) := by
  by_cases h : boolOf (env t) = some b
  · rw [if_pos h]
    simp only [R, evalOps, wantedS, h, beq_self_eq_true]
  · rw [if_neg h]
    have : (boolOf (env t) == some b) = false := by simpa using h
    simp only [R, evalOps, wantedS, this]

theorem R_callq {d : Option Nat} {f : Nat} {xs : List O} {os : List SOper} {env : Nat → Reg} {m : Mem} {n : Nat} {Q : (Nat → Reg) → Mem → Nat → Prop}
    (h : Fn T f (evOs env xs) (frz m) n (fun r _ _ => r.flat = true ∧ R T os (putE env d r) m n Q)) : R T (⟨d, .call .q f xs, none⟩ :: os) env m n Q := by
  obtain ⟨k1, r, m1, n1, h1, h2, k2, e, m', n', h3, h4⟩ := h
  refine ⟨max k1 k2, e, m', n', ?_, h4⟩
  simp only [evalOps, wantedS, evalOp, doCall]
  rw [run_mono (Nat.le_max_left k1 k2) _ _ _ _ _ h1]
  simp only [h2, if_true]
  exact evalOps_mono (run_mono (Nat.le_max_right k1 k2)) h3

theorem R_callz {d : Option Nat} {g f : Nat} {xs : List O} {os : List SOper} {env : Nat → Reg} {m : Mem} {n : Nat} {Q : (Nat → Reg) → Mem → Nat → Prop} (hf : flats (evOs env xs) = true)
    (h : Fn T f (evOs env xs) (fun _ => none) g (fun r _ _ => r.flat = true ∧ R T os (putE env d r) m n Q)) : R T (⟨d, .call (.z g) f xs, none⟩ :: os) env m n Q := by
  obtain ⟨k1, r, m1, n1, h1, h2, k2, e, m', n', h3, h4⟩ := h
  refine ⟨max k1 k2, e, m', n', ?_, h4⟩
  simp only [evalOps, wantedS, evalOp, doCall, hf, if_true]
  rw [run_mono (Nat.le_max_left k1 k2) _ _ _ _ _ h1]
  simp only [h2, if_true]
  exact evalOps_mono (run_mono (Nat.le_max_right k1 k2)) h3

theorem R_callk {d : Option Nat} {f : Nat} {xs : List O} {os : List SOper} {env : Nat → Reg} {m : Mem} {n : Nat} {Q : (Nat → Reg) → Mem → Nat → Prop}
    (h : Fn T f (evOs env xs) (frz m) n (fun r m' n' => R T os (putE env d r) (unfrz m n m') (max n n') Q)) : R T (⟨d, .call .k f xs, none⟩ :: os) env m n Q := by
  obtain ⟨k1, r, m1, n1, h1, k2, e, m', n', h3, h4⟩ := h
  refine ⟨max k1 k2, e, m', n', ?_, h4⟩
  simp only [evalOps, wantedS, evalOp, doCall]
  rw [run_mono (Nat.le_max_left k1 k2) _ _ _ _ _ h1]
  exact evalOps_mono (run_mono (Nat.le_max_right k1 k2)) h3

theorem R_callw {d : Option Nat} {f : Nat} {xs : List O} {os : List SOper} {env : Nat → Reg} {m : Mem} {n : Nat} {Q : (Nat → Reg) → Mem → Nat → Prop}
    (h : Fn T f (evOs env xs) m n (fun r m' n' => R T os (putE env d r) m' n' Q)) : R T (⟨d, .call .w f xs, none⟩ :: os) env m n Q := by
  obtain ⟨k1, r, m1, n1, h1, k2, e, m', n', h3, h4⟩ := h
  refine ⟨max k1 k2, e, m', n', ?_, h4⟩
  simp only [evalOps, wantedS, evalOp, doCall]
  rw [run_mono (Nat.le_max_left k1 k2) _ _ _ _ _ h1]
  exact evalOps_mono (run_mono (Nat.le_max_right k1 k2)) h3

theorem R_callv {d : Option Nat} {md : Mode} {x : O} {f : Nat} {caps : List Cell} {xs : List O} {os : List SOper} {env : Nat → Reg} {m : Mem} {n : Nat} {Q : (Nat → Reg) → Mem → Nat → Prop} (hx : evO env x = .one (.clo f caps))
    (h : R T (⟨d, .call md f ((evOs env xs ++ caps.map Reg.one).map O.c), none⟩ :: os) env m n Q) : R T (⟨d, .callv md x xs, none⟩ :: os) env m n Q := by
  have hm : ∀ (rs : List Reg), evOs env (rs.map O.c) = rs := by
    intro rs
    induction rs with
    | nil => rfl
    | cons r rs ih => simp [evOs, evO, ih]
  obtain ⟨k, e, m', n', h1, h2⟩ := h
  refine ⟨k, e, m', n', ?_, h2⟩
  simp only [evalOps, wantedS, evalOp, hm] at h1 ⊢
  rw [hx]
  exact h1

/-! ### code -/
theorem X_skip {s : St} {Q : Ex → St → Prop} : X T .skip s Q = Q .n s := by
  apply propext
  constructor
  · rintro ⟨k, e, s', h1, h2⟩
    simp only [exec, Option.some.injEq, Prod.mk.injEq] at h1
    obtain ⟨rfl, rfl⟩ := h1
    exact h2
  · intro h; exact ⟨0, .n, s, rfl, h⟩
theorem X_exit {id : Nat} {s : St} {Q : Ex → St → Prop} : X T (.exit id) s Q = Q (.x id) s := by
  apply propext
  constructor
  · rintro ⟨k, e, s', h1, h2⟩
    simp only [exec, Option.some.injEq, Prod.mk.injEq] at h1
    obtain ⟨rfl, rfl⟩ := h1
    exact h2
  · intro h; exact ⟨0, _, s, rfl, h⟩
theorem X_ret {s : St} {Q : Ex → St → Prop} : X T .ret s Q = Q .r s := by
  apply propext
  constructor
  · rintro ⟨k, e, s', h1, h2⟩
    simp only [exec, Option.some.injEq, Prod.mk.injEq] at h1
    obtain ⟨rfl, rfl⟩ := h1
    exact h2
  · intro h; exact ⟨0, _, s, rfl, h⟩
theorem X_reg {os : List SOper} {s : St} {Q : Ex → St → Prop} : X T (.reg os) s Q = R T os s.e s.m s.n (fun e m n => Q .n ⟨e, m, n⟩) := by
  apply propext
  constructor
  · rintro ⟨k, e, s', h1, h2⟩
    simp only [exec] at h1
    split at h1
    case h_2 => cases h1
    rename_i e1 m1 n1 h3
    cases h1
    exact ⟨k, e1, m1, n1, h3, h2⟩
  · rintro ⟨k, e, m', n', h1, h2⟩
    exact ⟨k, .n, ⟨e, m', n'⟩, by simp only [exec, h1], h2⟩

theorem X_dreg {dis : List (Nat × Nat)} {os : List SOper} {s : St} {Q : Ex → St → Prop} : X T (.dreg dis os) s Q = R T os s.e s.m s.n (fun e m n => disOk e dis = true ∧ Q .n ⟨e, m, n⟩) := by
  apply propext
  constructor
  · rintro ⟨k, e, s', h1, h2⟩
    simp only [exec] at h1
    split at h1
    case h_2 => cases h1
    rename_i e1 m1 n1 h3
    split at h1
    case isFalse => cases h1
    rename_i hd
    cases h1
    exact ⟨k, e1, m1, n1, h3, hd, h2⟩
  · rintro ⟨k, e, m', n', h1, hd, h2⟩
    exact ⟨k, .n, ⟨e, m', n'⟩, by simp only [exec, h1, hd, if_true], h2⟩

/-- What comes behind code. -/
def Next (Q : Ex → St → Prop) (K : St → Prop) : Ex → St → Prop
  | .n, s => K s
  | e, s => Q e s
theorem X_ureg {es : List Nat} {dis : List (Nat × Nat)} {os : List SOper} {s : St} {Q : Ex → St → Prop} : X T (.ureg es dis os) s Q = R T os s.e s.m s.n (fun e m n => (disOk e dis = true ∧ safeOk s.m e es = true) ∧ Q .n ⟨e, m, n⟩) := by
  apply propext
  constructor
  · rintro ⟨k, e, s', h1, h2⟩
    simp only [exec] at h1
    split at h1
    case h_2 => cases h1
    rename_i e1 m1 n1 h3
    split at h1
    case isFalse => cases h1
    rename_i hd
    cases h1
    exact ⟨k, e1, m1, n1, h3, hd, h2⟩
  · rintro ⟨k, e, m', n', h1, hd, h2⟩
    exact ⟨k, .n, ⟨e, m', n'⟩, by simp only [exec, h1, hd, and_self, if_true], h2⟩

theorem X_preg {j f : Nat} {args : List O} {dis : List (Nat × Nat)} {os : List SOper} {s : St} {Q : Ex → St → Prop} (h : Fn T f (evOs s.e args) (frz s.m) s.n (fun r _ n' => (r.flat = true ∨ n' = s.n) ∧ X T (.dreg dis (setOp os j (.mv (.c r)))) s Q)) : X T (.preg j f args dis os) s Q := by
  obtain ⟨k1, r, m1, n1, h1, hf, k2, e, s', h2, h3⟩ := h
  refine ⟨max k1 k2, e, s', ?_, h3⟩
  simp only [exec] at h2 ⊢
  rw [run_mono (Nat.le_max_left k1 k2) _ _ _ _ _ h1]
  simp only
  rw [if_pos hf]
  split at h2
  case h_2 => cases h2
  rename_i e1 m2 n2 h4
  rw [evalOps_mono (run_mono (Nat.le_max_right k1 k2)) h4]
  exact h2

theorem X_pureg {j f : Nat} {args : List O} {es : List Nat} {dis : List (Nat × Nat)} {os : List SOper} {s : St} {Q : Ex → St → Prop} (h : R T (os.take j) s.e s.m s.n (fun e1 _ _ => safeOk s.m e1 (usesOs args) = true ∧ Fn T f (evOs e1 args) (frz s.m) s.n (fun r _ _ => r.flat = true ∧ X T (.ureg es dis (setOp os j (.pre r args))) s Q))) : X T (.pureg j f args es dis os) s Q := by
  obtain ⟨k0, e1, m9, n9, h9, hs, k1, r, m1, n1, h1, hf, k2, e, s', h2, h3⟩ := h
  refine ⟨max k0 (max k1 k2), e, s', ?_, h3⟩
  simp only [exec] at h2 ⊢
  rw [evalOps_mono (run_mono (Nat.le_max_left k0 _)) h9]
  simp only
  rw [run_mono (Nat.le_trans (Nat.le_max_left k1 k2) (Nat.le_max_right k0 _)) _ _ _ _ _ h1]
  simp only
  rw [if_pos ⟨hf, hs⟩]
  split at h2
  case h_2 => cases h2
  rename_i e2 m2 n2 h4
  rw [evalOps_mono (run_mono (Nat.le_trans (Nat.le_max_right k1 k2) (Nat.le_max_right k0 _))) h4]
  exact h2

theorem Next_n {Q : Ex → St → Prop} {K : St → Prop} {s : St} : Next Q K .n s = K s := rfl
theorem Next_x {Q : Ex → St → Prop} {K : St → Prop} {s : St} {id : Nat} : Next Q K (.x id) s = Q (.x id) s := rfl
theorem Next_r {Q : Ex → St → Prop} {K : St → Prop} {s : St} : Next Q K .r s = Q .r s := rfl

theorem X_seq {a b : SC} {s : St} {Q : Ex → St → Prop} : X T (.seq a b) s Q = X T a s (Next Q (fun s' => X T b s' Q)) := by
  apply propext
  constructor
  · rintro ⟨k, e, s', h1, h2⟩
    simp only [exec] at h1
    cases h3 : exec (run T k) k a s with
    | none => rw [h3] at h1; cases h1
    | some y =>
      obtain ⟨e1, s1⟩ := y
      rw [h3] at h1
      cases e1 with
      | n => exact ⟨k, .n, s1, h3, k, e, s', h1, h2⟩
      | x id => cases h1; exact ⟨k, _, _, h3, h2⟩
      | r => cases h1; exact ⟨k, _, _, h3, h2⟩
  · rintro ⟨k1, e1, s1, h1, h2⟩
    cases e1 with
    | n =>
      obtain ⟨k2, e, s', h3, h4⟩ := h2
      refine ⟨max k1 k2, e, s', ?_, h4⟩
      simp only [exec]
      rw [exec_mono (run_mono (Nat.le_max_left k1 k2)) (Nat.le_max_left k1 k2) h1]
      exact exec_mono (run_mono (Nat.le_max_right k1 k2)) (Nat.le_max_right k1 k2) h3
    | x id => exact ⟨k1, _, s1, by simp only [exec]; rw [h1], h2⟩
    | r => exact ⟨k1, _, s1, by simp only [exec]; rw [h1], h2⟩

theorem X_cond {c : O} {a b : SC} {s : St} {Q : Ex → St → Prop} {t : Bool} (hc : evO s.e c = .one (.sc (.bool t))) : X T (.cond c a b) s Q = if t = true then X T a s Q else X T b s Q := by
  cases t <;> simp [X, exec, hc]

/-- What leaves a block. -/
def Out (id : Nat) (Q : Ex → St → Prop) : Ex → St → Prop
  | .x i, s => if i = id then Q .n s else Q (.x i) s
  | e, s => Q e s
theorem Out_n {Q : Ex → St → Prop} {id : Nat} {s : St} : Out id Q .n s = Q .n s := rfl
theorem Out_x {Q : Ex → St → Prop} {id i : Nat} {s : St} : Out id Q (.x i) s = if i = id then Q .n s else Q (.x i) s := rfl
theorem Out_r {Q : Ex → St → Prop} {id : Nat} {s : St} : Out id Q .r s = Q .r s := rfl

theorem X_block {id : Nat} {b : SC} {s : St} {Q : Ex → St → Prop} : X T (.block id b) s Q = X T b s (Out id Q) := by
  apply propext
  constructor
  · rintro ⟨k, e, s', h1, h2⟩
    simp only [exec] at h1
    cases h3 : exec (run T k) k b s with
    | none => rw [h3] at h1; cases h1
    | some y =>
      obtain ⟨e1, s1⟩ := y
      rw [h3] at h1
      cases e1 with
      | n => cases h1; exact ⟨k, _, _, h3, h2⟩
      | x i =>
        simp only at h1
        split at h1
        · rename_i hi; cases h1; exact ⟨k, _, _, h3, by rw [Out_x, if_pos hi]; exact h2⟩
        · rename_i hi; cases h1; exact ⟨k, _, _, h3, by rw [Out_x, if_neg hi]; exact h2⟩
      | r => cases h1; exact ⟨k, _, _, h3, h2⟩
  · rintro ⟨k, e, s', h1, h2⟩
    cases e with
    | n => exact ⟨k, .n, s', by simp only [exec]; rw [h1], h2⟩
    | x i =>
      rw [Out_x] at h2
      split at h2
      · rename_i hi; exact ⟨k, .n, s', by simp only [exec]; rw [h1]; simp [hi], h2⟩
      · rename_i hi; exact ⟨k, .x i, s', by simp only [exec]; rw [h1]; simp [hi], h2⟩
    | r => exact ⟨k, .r, s', by simp only [exec]; rw [h1], h2⟩

theorem X_loop {b : SC} {s : St} {Q : Ex → St → Prop} (h : X T b s (Next Q (fun s' => X T (.loop b) s' Q))) : X T (.loop b) s Q := by
  obtain ⟨k1, e1, s1, h1, h2⟩ := h
  cases e1 with
  | n =>
    obtain ⟨k2, e, s', h3, h4⟩ := h2
    refine ⟨max k1 k2 + 1, e, s', ?_, h4⟩
    have e1 := exec_mono (run_mono (show k1 ≤ max k1 k2 + 1 by omega)) (show k1 ≤ max k1 k2 + 1 by omega) h1
    simp only [exec] at h3 ⊢
    simp only [iter, e1]
    have key : ∀ (j1 j2 : Nat) (s : St), j1 ≤ j2 → iter (exec (run T k2) k2 b) j1 s = some (e, s') → iter (exec (run T (max k1 k2 + 1)) (max k1 k2 + 1) b) j2 s = some (e, s') := by
      intro j1
      induction j1 with
      | zero => intro j2 s _ hi; simp [iter] at hi
      | succ j1 ihk =>
        intro j2 s hle hi
        obtain ⟨j2, rfl⟩ : ∃ k, j2 = k + 1 := ⟨j2 - 1, by omega⟩
        simp only [iter] at hi ⊢
        cases h5 : exec (run T k2) k2 b s with
        | none => rw [h5] at hi; cases hi
        | some y =>
          rw [exec_mono (run_mono (show k2 ≤ max k1 k2 + 1 by omega)) (show k2 ≤ max k1 k2 + 1 by omega) h5]
          rw [h5] at hi
          obtain ⟨e, s'⟩ := y
          cases e with
          | n => exact ihk j2 s' (by omega) hi
          | x id => exact hi
          | r => exact hi
    exact key k2 (max k1 k2) s1 (by omega) h3
  | x id => exact ⟨k1 + 1, _, s1, by
      simp only [exec]
      rw [iter, exec_mono (run_mono (Nat.le_succ k1)) (Nat.le_succ k1) h1], h2⟩
  | r => exact ⟨k1 + 1, _, s1, by
      simp only [exec]
      rw [iter, exec_mono (run_mono (Nat.le_succ k1)) (Nat.le_succ k1) h1], h2⟩

/-- The rounds of a range over path.walk. -/
def WLoop (T : Nat → Option SFun) (nd p1 p2 : Nat) (a b : SC) (e : Nat → Reg) (fb id off : Nat) (Q : Mem → Nat → Prop) : Nat → Nat → Mem → Nat → Prop
  | 0, _, m, n => Q m n
  | k + 1, i, m, n => ∃ cs fr, rd m id (off + i * 7) 7 = some cs ∧ rd m fb 0 2 = some fr ∧
      X T (.seq a b) ⟨upd (upd e p1 (.agg fr)) p2 (.agg cs), upd m n (some ⟨cs, true⟩), n + 1⟩ (fun ex s2 => ex = .n ∧ ∃ c d, (s2.m n).bind (·.cells[0]?) = some c ∧ (∃ tb, s2.m 0 = some tb ∧ tb.cells.all Cell.flat = true ∧ c.flat = true ∧ Fn T nd [.one c] (tabM tb.cells) 1 (fun r _ _ => r = .one (.sc (.int .i64 d)))) ∧
        ((d ≤ 0 ∧ WLoop T nd p1 p2 a b e fb id off Q k (i + 1) s2.m s2.n) ∨
         (0 < d ∧ d ≤ 3 ∧ ∃ q m3, rd s2.m n (1 + (d.toNat - 1) * 2) 2 = some q ∧ wr s2.m fb 0 q = some m3 ∧ WLoop T nd p1 p2 a b e fb id off Q k (i + 1) m3 s2.n)))
theorem WLoop_go {nd p1 p2 : Nat} {a b : SC} {e : Nat → Reg} {fb id off : Nat} {Q : Mem → Nat → Prop} : ∀ (k i : Nat) (m : Mem) (n : Nat), WLoop T nd p1 p2 a b e fb id off Q k i m n →
    ∃ K m' n', walkGo (run T K) nd (walkB (exec (run T K) K a) (exec (run T K) K b) e p1 p2) fb id off k i m n = some (m', n') ∧ Q m' n'
  | 0, i, m, n, h => ⟨0, m, n, rfl, h⟩
  | k + 1, i, m, n, h => by
    obtain ⟨cs, fr, h1, h2, K1, ex, s2, h3, rfl, c, d, h4, ⟨tb, ht1, ht2, ht3, K2, r, m2, n2, h5, rfl⟩, h6⟩ := h
    have hB : ∀ K, K1 ≤ K → walkB (exec (run T K) K a) (exec (run T K) K b) e p1 p2 fr cs (upd m n (some ⟨cs, true⟩)) (n + 1) = some (s2.m, s2.n) := by
      intro K hK
      unfold walkB
      simp only [exec] at h3
      cases ha : exec (run T K1) K1 a ⟨upd (upd e p1 (.agg fr)) p2 (.agg cs), upd m n (some ⟨cs, true⟩), n + 1⟩ with
      | none => rw [ha] at h3; cases h3
      | some y =>
        obtain ⟨e1, s1⟩ := y
        rw [ha] at h3
        cases e1 with
        | n =>
          rw [exec_mono (run_mono hK) hK ha]
          simp only at h3 ⊢
          rw [exec_mono (run_mono hK) hK h3]
        | x id => cases h3
        | r => cases h3
    have hN : ∀ K, K2 ≤ K → doCall (run T K) .t nd [.one c] s2.m s2.n = some (.one (.sc (.int .i64 d)), s2.m, s2.n) := by
      intro K hK
      simp only [doCall, ht1]
      rw [if_pos ⟨by simp [flats, Reg.flat, ht3], ht2⟩, run_mono hK _ _ _ _ _ h5]
      rfl
    rcases h6 with ⟨hd, hw⟩ | ⟨hd, hd3, q, m3, hq, hm3, hw⟩
    · obtain ⟨K3, m', n', h7, h8⟩ := WLoop_go k (i + 1) s2.m s2.n hw
      refine ⟨max K1 (max K2 K3), m', n', ?_, h8⟩
      simp only [walkGo, h1, h2]
      rw [hB _ (by omega)]
      simp only [h4]
      rw [hN _ (by omega)]
      simp only
      rw [if_neg (by omega)]
      refine walkGo_mono (run_mono (show K3 ≤ _ by omega)) (fun fr cs m n y hy => ?_) _ _ _ _ _ h7
      unfold walkB at hy ⊢
      split at hy
      case h_2 => cases hy
      rename_i s1 g1
      rw [exec_mono (run_mono (show K3 ≤ max K1 (max K2 K3) by omega)) (by omega) g1]
      simp only
      split at hy
      case h_2 => cases hy
      rename_i s3 g2
      rw [exec_mono (run_mono (show K3 ≤ max K1 (max K2 K3) by omega)) (by omega) g2]
      exact hy
    · obtain ⟨K3, m', n', h7, h8⟩ := WLoop_go k (i + 1) m3 s2.n hw
      refine ⟨max K1 (max K2 K3), m', n', ?_, h8⟩
      simp only [walkGo, h1, h2]
      rw [hB _ (by omega)]
      simp only [h4]
      rw [hN _ (by omega)]
      simp only
      rw [if_pos hd, if_pos hd3, hq]
      simp only [hm3]
      refine walkGo_mono (run_mono (show K3 ≤ _ by omega)) (fun fr cs m n y hy => ?_) _ _ _ _ _ h7
      unfold walkB at hy ⊢
      split at hy
      case h_2 => cases hy
      rename_i s1 g1
      rw [exec_mono (run_mono (show K3 ≤ max K1 (max K2 K3) by omega)) (by omega) g1]
      simp only
      split at hy
      case h_2 => cases hy
      rename_i s3 g2
      rw [exec_mono (run_mono (show K3 ≤ max K1 (max K2 K3) by omega)) (by omega) g2]
      exact hy
theorem X_walk {fi nd p1 p2 bx id off len : Nat} {x : O} {a b : SC} {s : St} {Q : Ex → St → Prop} {c : Cell} (hx : evO s.e x = .one (.clo fi [.ptr bx 0])) (hb : (s.m bx).bind (·.cells[0]?) = some c) (hs : segsOf c = some (id, off, len))
    (h : WLoop T nd p1 p2 a b s.e s.n id off (fun m n => Q .n ⟨s.e, m, n⟩) len 0 (upd s.m s.n (some ⟨[zc, zc], true⟩)) (s.n + 1)) : X T (.walk fi nd p1 p2 x a b) s Q := by
  obtain ⟨K, m', n', h1, h2⟩ := WLoop_go _ _ _ _ h
  refine ⟨K, .n, ⟨s.e, m', n'⟩, ?_, h2⟩
  simp only [exec, hx, if_true, hb, hs]
  rw [h1]

/-- What a function's code must come to. -/
def Ret (rs : List SRes) (Q : Reg → Mem → Nat → Prop) : Ex → St → Prop
  | .x _, _ => False
  | _, s => ∃ regs, evRes s rs = some regs ∧ Q (pack regs) s.m s.n
theorem Ret_n {rs : List SRes} {Q : Reg → Mem → Nat → Prop} {s : St} : Ret rs Q .n s = ∃ regs, evRes s rs = some regs ∧ Q (pack regs) s.m s.n := rfl
theorem Ret_r {rs : List SRes} {Q : Reg → Mem → Nat → Prop} {s : St} : Ret rs Q .r s = ∃ regs, evRes s rs = some regs ∧ Q (pack regs) s.m s.n := rfl

theorem Fn_of {f : Nat} {fn : SFun} {a : List Reg} {m : Mem} {n : Nat} {Q : Reg → Mem → Nat → Prop} (hT : T f = some fn) (hl : a.length ≤ fn.nt)
    (h : X T fn.body ⟨fun t => a.getD t (.tup []), m, n⟩ (Ret fn.res Q)) (hn : fn.nat = none := by rfl) : Fn T f a m n Q := by
  obtain ⟨k, e, s', h1, h2⟩ := h
  cases e with
  | n =>
    obtain ⟨regs, h3, h4⟩ := h2
    refine ⟨k + 1, pack regs, s'.m, s'.n, ?_, h4⟩
    simp only [run, hT, hn, if_pos hl, h1, h3]
  | x id => exact h2.elim
  | r =>
    obtain ⟨regs, h3, h4⟩ := h2
    refine ⟨k + 1, pack regs, s'.m, s'.n, ?_, h4⟩
    simp only [run, hT, hn, if_pos hl, h1, h3]

/-- A told function. -/
theorem Fn_nat {f : Nat} {fn : SFun} {g : List Reg → Mem → Nat → Option (Reg × Mem × Nat)} {a : List Reg} {m : Mem} {n : Nat} {x : Reg × Mem × Nat} {Q : Reg → Mem → Nat → Prop} (hT : T f = some fn) (hn : fn.nat = some g) (h : g a m n = some x) (hQ : Q x.1 x.2.1 x.2.2) : Fn T f a m n Q :=
  ⟨1, x.1, x.2.1, x.2.2, by simp only [run, hT, hn]; exact h, hQ⟩

/-- What was reckoned. -/
theorem Fn_run {f : Nat} {a : List Reg} {m : Mem} {n k : Nat} {x : Reg × Mem × Nat} {Q : Reg → Mem → Nat → Prop} (h : run T k f a m n = some x) (hQ : Q x.1 x.2.1 x.2.2) : Fn T f a m n Q := ⟨k, x.1, x.2.1, x.2.2, h, hQ⟩
end
end Go.Proofs.Ytkdbnmohpanpfaa.Sy

/- Pairs of ints, sorted by the first as_ the library sorts them: told. Conditions: none. -/
namespace Go.Proofs.Ytkdbnmohpanpfaa.Sy
open Go Go.Proofs
set_option linter.unusedVariables false

abbrev XC : Type := Int × Int
def ltX (x y : XC) : Bool := decide (x.1 < y.1)
theorem swoX : Sort.SWO ltX where
  irrefl x := by simp [ltX]
  trans x y z h1 h2 := by simp [ltX] at *; omega
  ntrans x y z h1 h2 := by simp [ltX] at *; omega

/-- The insertion sort by a number of rounds. -/
def insS : Nat → Nat → Array XC → Array XC
  | 0, _, d => d
  | k + 1, i, d => insS k (i + 1) (Sort.insInner ltX 0 i d)
theorem insS_eq (b : Nat) : ∀ (k i : Nat) (d : Array XC), b - i = k → Sort.insOuter ltX 0 b i d = insS k i d
  | 0, i, d, h => by rw [Sort.insOuter, if_neg (by omega)]; rfl
  | k + 1, i, d, h => by rw [Sort.insOuter, if_pos (by omega), insS_eq b k (i + 1) _ (by omega)]; rfl

def pdqX (d : Array XC) : Array XC := Sort.pdq ltX d 0 d.size (Lib.bitLen d.size) true true
def sortX (l : List XC) : List XC := if l.length ≤ 12 then (insS (l.length - 1) 1 l.toArray).toList else (pdqX l.toArray).toList
theorem sortX_eq (l : List XC) : sortX l = (pdqX l.toArray).toList := by
  unfold sortX
  split
  · rename_i h
    unfold pdqX
    rw [Sort.pdq, if_pos (by simpa using h), Sort.insertionSort, insS_eq _ _ _ _ rfl]
    simp
  · rfl
theorem pdqX_ok (l : List XC) : Sort.PermIn 0 l.length l.toArray (pdqX l.toArray) ∧ Sort.SortedIn ltX 0 l.length (pdqX l.toArray) := by
  have h := Sort.pdq_sorts ltX swoX l.toArray 0 l.toArray.size (Lib.bitLen l.toArray.size) true true (Nat.zero_le _) (Nat.le_refl _) (Or.inl rfl)
  simpa [pdqX] using h
theorem pdqX_size (l : List XC) : (pdqX l.toArray).size = l.length := by simpa using (pdqX_ok l).1.1
theorem sortX_len (l : List XC) : (sortX l).length = l.length := by rw [sortX_eq]; simpa using pdqX_size l
theorem sortX_perm (l : List XC) : (sortX l).Perm l := by
  rw [sortX_eq]
  have h := (pdqX_ok l).1
  have h1 := h.2.2
  rw [show (pdqX l.toArray).extract 0 l.length = pdqX l.toArray by rw [← pdqX_size l]; simp, show l.toArray.extract 0 l.length = l.toArray by simp] at h1
  exact h1
theorem sortX_sorted (l : List XC) : (sortX l).Pairwise (fun a b => a.1 ≤ b.1) := by
  rw [sortX_eq, List.pairwise_iff_getElem]
  intro i j hi hj hij
  have h := (pdqX_ok l).2 i j (Nat.zero_le _) hij (by have := pdqX_size l; simp at hj; omega)
  simp only [Array.length_toList] at hi hj
  rw [getElem!_pos _ i hi, getElem!_pos _ j hj] at h
  simp [ltX] at h
  simpa using h

def encX (x : XC) : List Cell := [.sc (.int .i64 x.1), .sc (.int .i64 x.2)]
def decX : List Cell → Option (List XC)
  | [] => some []
  | .sc (.int .i64 x) :: .sc (.int .i64 y) :: r => (decX r).map ((x, y) :: ·)
  | _ => none
theorem decX_enc : ∀ l : List XC, decX (l.flatMap encX) = some l
  | [] => rfl
  | x :: l => by
    have := decX_enc l
    simp only [List.flatMap_cons, encX, List.cons_append, List.nil_append, decX] at this ⊢
    rw [this]
    rfl
theorem decX_inv : ∀ {cs : List Cell} {l : List XC}, decX cs = some l → cs = l.flatMap encX
  | [], l, h => by simp only [decX, Option.some.injEq] at h; subst h; rfl
  | .sc (.int .i64 x) :: .sc (.int .i64 y) :: r, l, h => by
    simp only [decX] at h
    obtain ⟨l', h1, rfl⟩ := Option.map_eq_some_iff.1 h
    rw [decX_inv h1]
    rfl

/-- What the library's function does with a row of its caller's own, 'g' being the function that compares. -/
def sortNat (g : Nat) : List Reg → Mem → Nat → Option (Reg × Mem × Nat)
  | [.one (.sc (.slice none 0 0)), .one (.clo g' [])], m, n => if g' = g then some (.tup [], m, n) else none
  | [.one (.sl id 0 len none 2), .one (.clo g' [])], m, n =>
    if g' = g ∧ len ≤ 4294967296 then
      match m id with
      | some ⟨cs, true⟩ => match decX cs with
        | some l => if l.length = len then some (.tup [], upd m id (some ⟨(sortX l).flatMap encX, true⟩), n) else none
        | none => none
      | _ => none
    else none
  | _, _, _ => none
theorem sortNat_nil (g : Nat) (m : Mem) (n : Nat) : sortNat g [.one (.sc (.slice none 0 0)), .one (.clo g [])] m n = some (.tup [], m, n) := by simp [sortNat]
theorem sortNat_row (g id : Nat) (l : List XC) (m : Mem) (n : Nat) (hl : l.length ≤ 4294967296) (hm : m id = some ⟨l.flatMap encX, true⟩) :
    sortNat g [.one (.sl id 0 l.length none 2), .one (.clo g [])] m n = some (.tup [], upd m id (some ⟨(sortX l).flatMap encX, true⟩), n) := by
  simp [sortNat, hl, hm, decX_enc]
end Go.Proofs.Ytkdbnmohpanpfaa.Sy
