/- An evaluator of a part of Go's operations over a memory of its own, part two: the operations, slimmed down; what each does. Conditions: those that each theorem names. -/
import Derived.Test.YtkdbnmohpanpfaaSyA
namespace Go.Proofs.Ytkdbnmohpanpfaa.Sy
open Go
set_option linter.unusedVariables false

/-- An operand. -/
inductive O where
  | t (k : Nat)
  | c (r : Reg)
  | g (k : Nat)
  | f (k : Nat)
  deriving Inhabited

inductive Mode where
  | q | k | w | t
  | z (g : Nat)
  deriving DecidableEq

/-- Kinds of scalars in a row: what a comparison goes through. -/
inductive Sk where
  | i | b
  deriving DecidableEq

/-- An operation, with all that its types say. -/
inductive SOp where
  | mv (x : O)
  | pick (c a b : O)
  | alloc (zero : List Cell)
  | box (x : O)
  | build (zero : List Cell) (parts : List (Nat × Nat × O))
  | bslice (zero : List Cell) (len sz : Nat) (parts : List (Nat × Nat × O))
  | load1 (x : O)
  | loadA (n : Nat) (x : O)
  | store (n : Nat) (x v : O)
  | nilchk (x : O)
  | bin (op : BinOp) (x y : O)
  | beq (neg : Bool) (x y : O)
  | eqv (ks : List Sk) (neg : Bool) (x y : O)
  | eqnil (k : Nat) (neg : Bool) (x : O)
  | un (op : UnOp) (x : O)
  | conv (k : IntKind) (x : O)
  | mkfn (f : Nat) (caps : List O)
  | mkslice (zero : List Cell) (bytes sz : Nat) (len cap : O)
  | slS (sz : Nat) (x : O) (lo hi mx : Option O)
  | slA (len sz : Nat) (x : O) (lo hi mx : Option O)
  | fadr (off : Nat) (x : O)
  | fld (off size : Nat) (ag : Bool) (x : O)
  | iadrA (len sz : Nat) (x i : O)
  | iadrS (sz : Nat) (x i : O)
  | idxA (len sz : Nat) (ag : Bool) (x i : O)
  | istr (l : List Nat) (i : O)
  | ext (x : O) (i : Nat)
  | len (x : O)
  | lenC (n : Nat)
  | cap (x : O)
  | app (sz bytes : Nat) (s x : O)
  | appz (zero : List Cell) (bytes sz : Nat) (s x : O)
  | cpy (sz : Nat) (d s : O)
  | mn (xs : List O)
  | mx (xs : List O)
  | stuck
  | pre (r : Reg) (xs : List O)
  | carry (sub : Bool) (xs : List O)
  | clr (z : List Cell) (sz : Nat) (x : O)
  | call (m : Mode) (f : Nat) (args : List O)
  | callv (m : Mode) (x : O) (args : List O)

/-! ### slimming -/
def constReg : Value → Option Reg
  | .agg cs => if cs.toList.all Value.oneCell' then some (.agg (cs.toList.map .sc)) else none
  | .tuple _ => none
  | .bool b => some (.one (.sc (.bool b)))
  | .int k n => some (.one (.sc (.int k n)))
  | .string s => some (.one (.sc (.string s)))
  | .slice none 0 0 => some (.one (.sc (.slice none 0 0)))
  | .pointer none => some (.one (.sc (.pointer none)))
  | .nilFunc => some (.one (.sc .nilFunc))
  | .nilIface => some (.one (.sc .nilIface))
  | _ => none

def slimO (ng : Nat) : Operand → Option O
  | .tmp t => some (.t t)
  | .const v => (constReg v).map .c
  | .global g => if g < ng then some (.g g) else none
  | .func f => some (.f f)

def slimOs (ng : Nat) : List Operand → Option (List O)
  | [] => some []
  | x :: xs => match slimO ng x, slimOs ng xs with
    | some y, some ys => some (y :: ys)
    | _, _ => none

def slimOo (ng : Nat) : Option Operand → Option (Option O)
  | none => some none
  | some x => (slimO ng x).map some

def tsz (P : Program) (t : TypeId) : Option Nat := (P.info? t).map (·.size)
def tby (P : Program) (t : TypeId) : Option Nat := (P.info? t).map (·.bytes)
def tagg (P : Program) (t : TypeId) : Option Bool :=
  match P.underlying t with
  | some (.struct _) | some (.array _ _) => some true
  | some _ => some false
  | none => none
/-- The zero value's cells. -/
def tzero (P : Program) (t : TypeId) : Option (List Value) :=
  match (P.info? t).bind (·.zero) with
  | some z => if z.cells.toList.all Value.oneCell' then some z.cells.toList else none
  | none => none

def slimParts (ng : Nat) (place : Nat → Option (Nat × Nat)) : List (Nat × Operand) → Option (List (Nat × Nat × O))
  | [] => some []
  | (i, x) :: xs => match place i, slimO ng x, slimParts ng place xs with
    | some (off, size), some y, some ys => some ((off, size, y) :: ys)
    | _, _, _ => none

def placeOf (P : Program) (fs : Array Field) (i : Nat) : Option (Nat × Nat) :=
  match fs[i]? with
  | some f => (tsz P f.type).map fun s => (f.offset, s)
  | none => none

mutual
def flatK (P : Program) : Nat → TypeId → Option (List Sk)
  | 0, _ => none
  | d + 1, t =>
    match P.underlying t with
    | some (.int _) => some [.i]
    | some .bool => some [.b]
    | some (.array len e) => match flatK P d e, tsz P e with
      | some ks, some s => if ks.length = s then some (List.replicate len ks).flatten else none
      | _, _ => none
    | some (.struct fs) => if P.stoodInHeld t then none else flatKs P d fs.toList 0
    | _ => none
def flatKs (P : Program) : Nat → List Field → Nat → Option (List Sk)
  | 0, _, _ => none
  | _, [], _ => some []
  | d + 1, f :: fs, o =>
    if f.name = "_" ∨ f.offset ≠ o then none else
    match flatK P d f.type, tsz P f.type with
    | some ks, some s => if ks.length = s then (flatKs P d fs (o + s)).map (ks ++ ·) else none
    | _, _ => none
end

def zOk (ng : Nat) : Mode → Bool
  | .z g => g == ng
  | .t => ng == 1
  | _ => true

def isEmptyTup : Reg → Bool
  | .tup [] => true
  | _ => false

def slimOp (P : Program) (ng : Nat) (md : Nat → Mode) : Op → Option SOp
  | .move x | .assign x => (slimO ng x).map .mv
  | .pick c a b => match slimO ng c, slimO ng a, slimO ng b with
    | some c, some a, some b => some (.pick c a b)
    | _, _, _ => none
  | .alloc e => (tzero P e).map fun z => .alloc (z.map .sc)
  | .box _ x => (slimO ng x).map .box
  | .build t ps =>
    match tzero P t, P.underlying t with
    | some z, some (.struct fs) => if (fs.all fun f => (P.info? f.type).isSome) then (slimParts ng (placeOf P fs) ps.toList).map (.build (z.map .sc)) else none
    | some z, some (.array _ e) => match tsz P e with
      | some s => (slimParts ng (fun i => some (i * s, s)) ps.toList).map (.build (z.map .sc))
      | none => none
    | _, _ => none
  | .buildSlice t len ps =>
    match P.underlying t with
    | some (.slice e) => match tsz P e, tzero P e with
      | some s, some z => if z.length = s ∧ 0 < s ∧ len * s ≤ 16777216 then (slimParts ng (fun i => some (i * s, s)) ps.toList).map (.bslice ((List.replicate len z).flatten.map .sc) len s) else none
      | _, _ => none
    | _ => none
  | .load t x => match slimO ng x, tagg P t, tsz P t with
    | some x, some true, some s => some (.loadA s x)
    | some x, some false, some _ => some (.load1 x)
    | _, _, _ => none
  | .store t x v => match slimO ng x, slimO ng v, tsz P t with
    | some x, some v, some s => some (.store s x v)
    | _, _, _ => none
  | .nilCheck x => (slimO ng x).map .nilchk
  | .binOp op t x y _ =>
    match slimO ng x, slimO ng y with
    | some x', some y' =>
      match P.underlying t with
      | some (.int _) => some (.bin op x' y')
      | some .bool => if op = .eql ∨ op = .neq then some (.beq (op == .neq) x' y') else none
      | some (.struct _) | some (.array _ _) =>
        if op = .eql ∨ op = .neq then
          (match flatK P 100 t with
           | some ks => if P.eqGuardType P.depth t = false then some (.eqv ks (op == .neq) x' y') else none
           | none => none)
        else none
      | some (.slice _) =>
        (match y with
         | .const (.slice none 0 0) => if op = .eql ∨ op = .neq then some (.eqnil 0 (op == .neq) x') else none
         | _ => none)
      | some (.func ..) =>
        (match y with
         | .const .nilFunc => if op = .eql ∨ op = .neq then some (.eqnil 1 (op == .neq) x') else none
         | _ => none)
      | some (.pointer _) =>
        (match y with
         | .const (.pointer none) => if op = .eql ∨ op = .neq then some (.eqnil 2 (op == .neq) x') else none
         | _ => none)
      | _ => none
    | _, _ => none
  | .unOp op _ x => (slimO ng x).map (.un op)
  | .convert src dst x => match slimO ng x, P.underlying src, P.underlying dst with
    | some x, some (.int _), some (.int k) => some (.conv k x)
    | _, _, _ => none
  | .makeFunc (.func f) first caps => if first.size = 0 then (slimOs ng caps.toList).map (.mkfn f) else none
  | .makeSlice t l c =>
    match P.underlying t, slimO ng l, slimO ng c with
    | some (.slice e), some l, some c => match tsz P e, tby P e, tzero P e with
      | some s, some b, some z => if z.length = s ∧ 0 < s ∧ b ≤ 4096 then some (.mkslice (z.map .sc) b s l c) else none
      | _, _, _ => none
    | _, _, _ => none
  | .slice t x lo hi mx =>
    match slimO ng x, slimOo ng lo, slimOo ng hi, slimOo ng mx, P.underlying t with
    | some x, some lo, some hi, some mx, some (.slice e) => (tsz P e).map fun s => .slS s x lo hi mx
    | some x, some lo, some hi, some mx, some (.array n e) => (tsz P e).map fun s => .slA n s x lo hi mx
    | _, _, _, _, _ => none
  | .fieldAddr t x i =>
    match slimO ng x, P.underlying t with
    | some x, some (.struct fs) => match fs[i]? with
      | some f => match tsz P f.type with
        | some (_ + 1) => some (.fadr f.offset x)
        | _ => none
      | none => none
    | _, _ => none
  | .field t x i =>
    match slimO ng x, P.underlying t with
    | some x, some (.struct fs) => match fs[i]? with
      | some f => match tsz P f.type, tagg P f.type with
        | some s, some ag => some (.fld f.offset s ag x)
        | _, _ => none
      | none => none
    | _, _ => none
  | .indexAddr t x i =>
    match slimO ng x, slimO ng i, P.underlying t with
    | some x, some i, some (.slice e) => (tsz P e).map fun s => .iadrS s x i
    | some x, some i, some (.array n e) => (tsz P e).map fun s => .iadrA n s x i
    | _, _, _ => none
  | .index t x i =>
    match slimO ng x, slimO ng i, P.underlying t with
    | some x, some i, some (.array n e) => match tsz P e, tagg P e with
      | some s, some ag => some (.idxA n s ag x i)
      | _, _ => none
    | some (.c (.one (.sc (.string s)))), some i, some .string => some (.istr (s.data.toList.map UInt8.toNat) i)
    | _, _, _ => none
  | .extract x i => (slimO ng x).map (.ext · i)
  | .call c =>
    match c.callee, slimOs ng c.args.toList with
    | .value (.func f), some args =>
      match P.funcs[f]? with
      | some fn => if fn.body.isSome ∧ (fn.name == "runtime.NumGoroutine") = false ∧ zOk ng (md f) = true then some (.call (md f) f args)
        else if fn.body.isNone ∧ fn.name = "math/bits.Add64" ∧ fn.origin = "" then some (.carry false args)
        else if fn.body.isNone ∧ fn.name = "math/bits.Sub64" ∧ fn.origin = "" then some (.carry true args)
        else none
      | none => none
    | .value x, some args => (slimO ng x).map fun x => .callv .q x args
    | .builtin .len, some [x] =>
      match c.argTypes.toList with
      | [t] => match P.underlying t with
        | some (.slice _) => some (.len x)
        | some (.array n _) => some (.lenC n)
        | _ => none
      | _ => none
    | .builtin .cap, some [x] =>
      match c.argTypes.toList with
      | [t] => match P.underlying t with
        | some (.slice _) => some (.cap x)
        | _ => none
      | _ => none
    | .builtin .append, some [s, x] =>
      match c.argTypes.toList with
      | [t, u] => match P.underlying t, P.underlying u with
        | some (.slice e), some (.slice _) => match tsz P e, tby P e, tzero P e with
          | some s', some b, some z => if z.length = s' ∧ 0 < s' ∧ b ≤ 4096 ∧ 0 < b then some (.app s' b s x) else none
          | _, _, _ => none
        | some (.slice e), some (.int _) => match tsz P e, tby P e, tzero P e with
          | some s', some b, some z => if z.length = s' ∧ 0 < s' ∧ b ≤ 4096 ∧ 0 < b then some (.appz (z.map .sc) b s' s x) else none
          | _, _, _ => none
        | _, _ => none
      | _ => none
    | .builtin .copy, some [s, x] =>
      match c.argTypes.toList with
      | [t, u] => match P.underlying t, P.underlying u with
        | some (.slice e), some (.slice _) => (tsz P e).map fun s' => .cpy s' s x
        | _, _ => none
      | _ => none
    | .builtin .clear, some [x] =>
      match c.argTypes.toList with
      | [t] => match P.underlying t with
        | some (.slice e) => match tsz P e, tzero P e with
          | some s', some z => if z.length = s' ∧ 0 < s' then some (.clr (z.map .sc) s' x) else none
          | _, _ => none
        | _ => none
      | _ => none
    | .builtin .min, some xs => some (.mn xs)
    | .builtin .max, some xs => some (.mx xs)
    | _, _ => none
  | _ => none

/-! ### what each does -/
def evO (env : Nat → Reg) : O → Reg
  | .t k => env k
  | .c r => r
  | .g k => .one (.ptr k 0)
  | .f k => .one (.clo k [])

def evOs (env : Nat → Reg) : List O → List Reg
  | [] => []
  | x :: xs => evO env x :: evOs env xs

def Reg.cs? : Reg → Option (List Cell)
  | .one c => some [c]
  | .agg cs => some cs
  | .tup _ => none

mutual
/-- A register that leads nowhere. -/
def Cell.flat : Cell → Bool
  | .sc _ => true
  | _ => false
def Reg.flat : Reg → Bool
  | .one c => c.flat
  | .agg cs => cs.all Cell.flat
  | .tup rs => flats rs
def flats : List Reg → Bool
  | [] => true
  | r :: rs => r.flat && flats rs
end

def binV (op : BinOp) : Value → Value → Option Value
  | .int k a, .int k' b =>
    match op with
    | .shl => if b < 0 then none else some (.int k (k.wrap (a * 2 ^ min b.toNat k.bits)))
    | .shr => if b < 0 then none else some (.int k (a.fdiv (2 ^ min b.toNat k.bits)))
    | .add => if k = k' then some (.int k (k.wrap (a + b))) else none
    | .sub => if k = k' then some (.int k (k.wrap (a - b))) else none
    | .mul => if k = k' then some (.int k (k.wrap (a * b))) else none
    | .quo => if k = k' then (if b = 0 then none else some (.int k (k.wrap (a.tdiv b)))) else none
    | .rem => if k = k' then (if b = 0 then none else some (.int k (a.tmod b))) else none
    | .and => if k = k' then some (.int k (k.wrap (BitVec.ofInt k.bits a &&& BitVec.ofInt k.bits b).toNat)) else none
    | .or => if k = k' then some (.int k (k.wrap (BitVec.ofInt k.bits a ||| BitVec.ofInt k.bits b).toNat)) else none
    | .xor => if k = k' then some (.int k (k.wrap (BitVec.ofInt k.bits a ^^^ BitVec.ofInt k.bits b).toNat)) else none
    | .andNot => none
    | .eql => if k = k' then some (.bool (a == b)) else none
    | .neq => if k = k' then some (.bool (a != b)) else none
    | .lss => if k = k' then some (.bool (decide (a < b))) else none
    | .leq => if k = k' then some (.bool (decide (a ≤ b))) else none
    | .gtr => if k = k' then some (.bool (decide (a > b))) else none
    | .geq => if k = k' then some (.bool (decide (a ≥ b))) else none
  | _, _ => none

def unV (op : UnOp) : Value → Option Value
  | .int k a =>
    match op with
    | .neg => some (.int k (k.wrap (0 - a)))
    | _ => none
  | .bool b =>
    match op with
    | .not => some (.bool !b)
    | _ => none
  | _ => none

/-- Cells that are compared: ints of one kind, Bools. -/
def eqCells : List Sk → List Cell → List Cell → Option Bool
  | [], [], [] => some true
  | .i :: ks, .sc (.int k a) :: xs, .sc (.int k' b) :: ys => if k = k' then (eqCells ks xs ys).map ((a == b) && ·) else none
  | .b :: ks, .sc (.bool a) :: xs, .sc (.bool b) :: ys => (eqCells ks xs ys).map ((a == b) && ·)
  | _, _, _ => none

def setL (l : List Cell) (o : Nat) : List Cell → List Cell
  | [] => l
  | c :: cs => setL (l.set o c) (o + 1) cs

def fillC (env : Nat → Reg) (l : List Cell) : List (Nat × Nat × O) → Option (List Cell)
  | [] => some l
  | (off, size, x) :: ps =>
    match (evO env x).cs? with
    | some cs => if cs.length = size ∧ off + size ≤ l.length then fillC env (setL l off cs) ps else none
    | none => none

def rd (m : Mem) (id off n : Nat) : Option (List Cell) :=
  match m id with
  | some b => if off + n ≤ b.cells.length then some ((b.cells.drop off).take n) else none
  | none => none

def wr (m : Mem) (id off : Nat) (cs : List Cell) : Option Mem :=
  match m id with
  | some b => if b.own = true ∧ off + cs.length ≤ b.cells.length then some (upd m id (some ⟨setL b.cells off cs, true⟩)) else none
  | none => none

def ix : Reg → Option Int
  | .one (.sc (.int _ i)) => some i
  | _ => none

def inR (r : Reg) (y : Nat) : Option Nat :=
  match ix r with
  | some i => if 0 ≤ i ∧ i ≤ y then some i.toNat else none
  | none => none

def bMax (len : Nat) (cap : Option Nat) : Option Reg → Option (Option Nat)
  | none => some cap
  | some r => (inR r (cap.getD len)).map some

def bHigh (len : Nat) (m : Option Nat) (mx : Option Reg) : Option Reg → Option Nat
  | none => if mx.isSome then none else some len
  | some r => inR r (m.getD len)

def bLow (h : Nat) : Option Reg → Option Nat
  | none => some 0
  | some r => inR r h

/-- The bounds of a slice: low, high, and what is left above low (none: at least what was asked for). -/
def bnds (len : Nat) (cap : Option Nat) (lo hi mx : Option Reg) : Option (Nat × Nat × Option Nat) :=
  match bMax len cap mx with
  | none => none
  | some m =>
    match bHigh len m mx hi with
    | none => none
    | some h =>
      match bLow h lo with
      | none => none
      | some l => some (l, h, m.map (· - l))

/-- The sum or the difference of two numbers of 64 bits, and what is carried. -/
def carryR (sub : Bool) : List Reg → Option Reg
  | [.one (.sc (.int .u64 x)), .one (.sc (.int .u64 y)), .one (.sc (.int .u64 c))] =>
    if 0 ≤ x ∧ x < 18446744073709551616 ∧ 0 ≤ y ∧ y < 18446744073709551616 ∧ (c = 0 ∨ c = 1) then
      (match sub with
       | false => some (.tup [.one (.sc (.int .u64 ((x + y + c) % 18446744073709551616))), .one (.sc (.int .u64 ((x + y + c) / 18446744073709551616)))])
       | true => some (.tup [.one (.sc (.int .u64 ((x - y - c) % 18446744073709551616))), .one (.sc (.int .u64 (if x < y + c then 1 else 0)))]))
    else none
  | _ => none

abbrev Callf := Nat → List Reg → Mem → Nat → Option (Reg × Mem × Nat)

def frz (m : Mem) : Mem := fun id => (m id).map fun b => ⟨b.cells, false⟩
def unfrz (m : Mem) (n : Nat) (m' : Mem) : Mem := fun id => if id < n then m id else m' id

/-- A memory that has the table alone. -/
def tabM (cs : List Cell) : Mem := upd (fun _ => none) 0 (some ⟨cs, false⟩)

def doCall (call : Callf) (md : Mode) (f : Nat) (args : List Reg) (m : Mem) (n : Nat) : Option (Reg × Mem × Nat) :=
  match md with
  | .q => match call f args (frz m) n with
    | some (r, _, _) => if r.flat then some (r, m, n) else none
    | none => none
  | .k => match call f args (frz m) n with
    | some (r, m', n') => some (r, unfrz m n m', max n n')
    | none => none
  | .w => call f args m n
  | .t => match m 0 with
    | some b => if flats args = true ∧ b.cells.all Cell.flat = true then
        match call f args (tabM b.cells) 1 with
        | some (r, _, _) => if r.flat then some (r, m, n) else none
        | none => none
      else none
    | none => none
  | .z g => if flats args then
      match call f args (fun _ => none) g with
      | some (r, _, _) => if r.flat then some (r, m, n) else none
      | none => none
    else none

def minI : Int → List Reg → Option Int
  | a, [] => some a
  | a, .one (.sc (.int _ b)) :: r => minI (if b < a then b else a) r
  | _, _ => none
def maxI : Int → List Reg → Option Int
  | a, [] => some a
  | a, .one (.sc (.int _ b)) :: r => maxI (if b > a then b else a) r
  | _, _ => none

/-- What is appended. -/
def newsOf (m : Mem) (sz : Nat) : Reg → Option (Nat × List Cell)
  | .one (.sc (.slice none 0 0)) => some (0, [])
  | .one (.sl id off len _ sz') => if sz' = sz then (rd m id off (len * sz)).map fun cs => (len, cs) else none
  | _ => none

def evApp (m : Mem) (n : Nat) (sz bytes : Nat) (s x : Reg) : Option (Reg × Mem × Nat) :=
  match newsOf m sz x with
  | none => none
  | some (k, news) =>
    match s with
    | .one (.sc (.slice none 0 0)) =>
      if k = 0 then some (.one (.sc (.slice none 0 0)), m, n)
      else if k ≤ 4294967296 then some (.one (.sl n 0 k none sz), upd m n (some ⟨news, true⟩), n + 1) else none
    | .one (.sl id off len cap sz') =>
      if sz' = sz ∧ len + k ≤ 4294967296 then
        match cap with
        | some c =>
          if len + k ≤ c then
            (if k = 0 then some (.one (.sl id off len (some c) sz), m, n)
             else (wr m id (off + len * sz) news).map fun m' => (.one (.sl id off (len + k) (some c) sz), m', n))
          else (rd m id off (len * sz)).map fun olds => (.one (.sl n 0 (len + k) none sz), upd m n (some ⟨olds ++ news, true⟩), n + 1)
        | none =>
          match m id with
          | some b => if b.own then (rd m id off (len * sz)).map fun olds => (.one (.sl n 0 (len + k) none sz), upd (upd m id none) n (some ⟨olds ++ news, true⟩), n + 1) else none
          | none => none
      else none
    | _ => none

def evalOp (call : Callf) (env : Nat → Reg) (m : Mem) (n : Nat) : SOp → Option (Reg × Mem × Nat)
  | .mv x => some (evO env x, m, n)
  | .pick c a b => match evO env c with
    | .one (.sc (.bool t)) => some (if t then evO env a else evO env b, m, n)
    | _ => none
  | .alloc z => some (.one (.ptr n 0), upd m n (some ⟨z, true⟩), n + 1)
  | .box x => match (evO env x).cs? with
    | some cs => some (.one (.ptr n 0), upd m n (some ⟨cs, true⟩), n + 1)
    | none => none
  | .build z ps => (fillC env z ps).map fun cs => (.agg cs, m, n)
  | .bslice z len sz ps => (fillC env z ps).map fun cs => (.one (.sl n 0 len (some len) sz), upd m n (some ⟨cs, true⟩), n + 1)
  | .load1 x => match evO env x with
    | .one (.ptr id off) => match m id with
      | some b => match b.cells[off]? with
        | some c => some (.one c, m, n)
        | none => none
      | none => none
    | _ => none
  | .loadA k x => match evO env x with
    | .one (.ptr id off) => (rd m id off k).map fun cs => (.agg cs, m, n)
    | _ => none
  | .store k x v => match evO env x, (evO env v).cs? with
    | .one (.ptr id off), some cs => if cs.length = k then (wr m id off cs).map fun m' => (.tup [], m', n) else none
    | _, _ => none
  | .nilchk x => match evO env x with
    | .one (.ptr id off) => some (.one (.ptr id off), m, n)
    | .one (.clo f cs) => some (.one (.clo f cs), m, n)
    | _ => none
  | .bin op x y => match evO env x, evO env y with
    | .one (.sc a), .one (.sc b) => (binV op a b).map fun v => (.one (.sc v), m, n)
    | _, _ => none
  | .beq neg x y => match evO env x, evO env y with
    | .one (.sc (.bool a)), .one (.sc (.bool b)) => some (.one (.sc (.bool ((a == b) != neg))), m, n)
    | _, _ => none
  | .eqv ks neg x y => match evO env x, evO env y with
    | .agg a, .agg b => (eqCells ks a b).map fun t => (.one (.sc (.bool (t != neg))), m, n)
    | _, _ => none
  | .eqnil 0 neg x => match evO env x with
    | .one (.sl ..) => some (.one (.sc (.bool (false != neg))), m, n)
    | .one (.sc (.slice none 0 0)) => some (.one (.sc (.bool (true != neg))), m, n)
    | _ => none
  | .eqnil 1 neg x => match evO env x with
    | .one (.clo ..) => some (.one (.sc (.bool (false != neg))), m, n)
    | _ => none
  | .eqnil 2 neg x => match evO env x with
    | .one (.ptr ..) => some (.one (.sc (.bool (false != neg))), m, n)
    | .one (.sc (.pointer none)) => some (.one (.sc (.bool (true != neg))), m, n)
    | _ => none
  | .eqnil _ _ _ => none
  | .un op x => match evO env x with
    | .one (.sc a) => (unV op a).map fun v => (.one (.sc v), m, n)
    | _ => none
  | .conv k x => match evO env x with
    | .one (.sc (.int _ a)) => some (.one (.sc (.int k (k.wrap a))), m, n)
    | _ => none
  | .mkfn f caps => match capsOf (evOs env caps) with
    | some cs => some (.one (.clo f cs), m, n)
    | none => none
  | .mkslice z bytes sz l c => match evO env l, evO env c with
    | .one (.sc (.int .i64 l)), .one (.sc (.int .i64 c)) =>
      if 0 ≤ l ∧ l ≤ c ∧ c ≤ 4294967296 then some (.one (.sl n 0 l.toNat (some c.toNat) sz), upd m n (some ⟨(List.replicate c.toNat z).flatten, true⟩), n + 1) else none
    | _, _ => none
  | .slS sz x lo hi mx => match evO env x with
    | .one (.sl id off len cap sz') =>
      if sz' = sz then (bnds len cap (lo.map (evO env)) (hi.map (evO env)) (mx.map (evO env))).map fun (l, h, c) => (.one (.sl id (off + l * sz) (h - l) c sz), m, n) else none
    | .one (.sc (.slice none 0 0)) =>
      (bnds 0 (some 0) (lo.map (evO env)) (hi.map (evO env)) (mx.map (evO env))).map fun _ => (.one (.sc (.slice none 0 0)), m, n)
    | _ => none
  | .slA len sz x lo hi mx => match evO env x with
    | .one (.ptr id off) => match m id with
      | some b => if off + len * sz ≤ b.cells.length then
          (bnds len (some len) (lo.map (evO env)) (hi.map (evO env)) (mx.map (evO env))).map fun (l, h, c) => (.one (.sl id (off + l * sz) (h - l) c sz), m, n) else none
      | none => none
    | _ => none
  | .fadr off x => match evO env x with
    | .one (.ptr id o) => some (.one (.ptr id (o + off)), m, n)
    | _ => none
  | .fld off size ag x => match evO env x with
    | .agg cs => if off + size ≤ cs.length then (if ag then some (.agg ((cs.drop off).take size), m, n) else (cs[off]?).map fun c => (.one c, m, n)) else none
    | _ => none
  | .iadrA len sz x i => match evO env x, ix (evO env i) with
    | .one (.ptr id off), some i => if 0 ≤ i ∧ i < len then some (.one (.ptr id (off + i.toNat * sz)), m, n) else none
    | _, _ => none
  | .iadrS sz x i => match evO env x, ix (evO env i) with
    | .one (.sl id off len _ sz'), some i => if sz' = sz ∧ 0 ≤ i ∧ i < len then some (.one (.ptr id (off + i.toNat * sz)), m, n) else none
    | _, _ => none
  | .idxA len sz ag x i => match evO env x, ix (evO env i) with
    | .agg cs, some i =>
      if 0 ≤ i ∧ i < len ∧ i.toNat * sz + sz ≤ cs.length then (if ag then some (.agg ((cs.drop (i.toNat * sz)).take sz), m, n) else (cs[i.toNat * sz]?).map fun c => (.one c, m, n)) else none
    | _, _ => none
  | .istr l i => match ix (evO env i) with
    | some i => if 0 ≤ i then (l[i.toNat]?).map fun (b : Nat) => (.one (.sc (.int .u8 (b : Int))), m, n) else none
    | none => none
  | .ext x i => match evO env x with
    | .tup rs => (rs[i]?).map fun r => (r, m, n)
    | _ => none
  | .len x => match evO env x with
    | .one (.sl _ _ len _ _) => some (.one (.sc (.int .i64 len)), m, n)
    | .one (.sc (.slice _ 0 0)) => some (.one (.sc (.int .i64 0)), m, n)
    | _ => none
  | .lenC k => some (.one (.sc (.int .i64 k)), m, n)
  | .cap x => match evO env x with
    | .one (.sl _ _ _ (some c) _) => some (.one (.sc (.int .i64 c)), m, n)
    | .one (.sc (.slice none 0 0)) => some (.one (.sc (.int .i64 0)), m, n)
    | _ => none
  | .app sz bytes s x => evApp m n sz bytes (evO env s) (evO env x)
  | .appz z bytes sz s x => match evO env s, evO env x with
    | .one (.sc (.slice none 0 0)), .one (.sc (.int .i64 k)) =>
      if k = 0 then some (.one (.sc (.slice none 0 0)), m, n)
      else if 0 ≤ k ∧ k ≤ 4294967296 then some (.one (.sl n 0 k.toNat none sz), upd m n (some ⟨(List.replicate k.toNat z).flatten, true⟩), n + 1) else none
    | _, _ => none
  | .cpy sz d s => match evO env d, newsOf m sz (evO env s) with
    | .one (.sl id off len _ sz'), some (k, news) =>
      if sz' = sz then
        (if Nat.min k len = 0 then some (.one (.sc (.int .i64 0)), m, n)
         else (wr m id off (news.take (Nat.min k len * sz))).map fun m' => (.one (.sc (.int .i64 (Nat.min k len))), m', n))
      else none
    | _, _ => none
  | .mn xs => match evOs env xs with
    | .one (.sc (.int kd a)) :: r => (minI a r).map fun v => (.one (.sc (.int kd v)), m, n)
    | _ => none
  | .mx xs => match evOs env xs with
    | .one (.sc (.int kd a)) :: r => (maxI a r).map fun v => (.one (.sc (.int kd v)), m, n)
    | _ => none
  | .stuck => none
  | .pre r _ => some (r, m, n)
  | .carry sub xs => (carryR sub (evOs env xs)).map fun r => (r, m, n)
  | .clr z sz x => match evO env x with
    | .one (.sc (.slice none 0 0)) => some (.tup [], m, n)
    | .one (.sl id off len _ sz') => if sz' = sz then (if len = 0 then some (.tup [], m, n) else (wr m id off (List.replicate len z).flatten).map fun m' => (.tup [], m', n)) else none
    | _ => none
  | .call md f args => doCall call md f (evOs env args) m n
  | .callv md x args => match evO env x with
    | .one (.clo f caps) => doCall call md f (evOs env args ++ caps.map .one) m n
    | _ => none
where capsOf : List Reg → Option (List Cell)
  | [] => some []
  | .one c :: r => (capsOf r).map (c :: ·)
  | _ => none

/-! ### regions -/
structure SOper where
  dst : Option Nat
  op : SOp
  guard : Option (Option Nat × Bool)

def slimOper (P : Program) (ng : Nat) (md : Nat → Mode) (ops : Array Oper) (o : Oper) : Option SOper :=
  some ⟨o.dst, (slimOp P ng md o.op).getD .stuck, o.guard.map fun g => ((ops[g.1]?).bind (·.dst), g.2)⟩

def slimOpers (P : Program) (ng : Nat) (md : Nat → Mode) (ops : Array Oper) : List Oper → Option (List SOper)
  | [] => some []
  | o :: os => match slimOper P ng md ops o, slimOpers P ng md ops os with
    | some s, some ss => some (s :: ss)
    | _, _ => none

def boolOf : Reg → Option Bool
  | .one (.sc (.bool b)) => some b
  | _ => none

def wantedS (env : Nat → Reg) (o : SOper) : Bool :=
  match o.guard with
  | none => true
  | some (none, _) => false
  | some (some t, want) => boolOf (env t) == some want

def putE (env : Nat → Reg) (dst : Option Nat) (r : Reg) : Nat → Reg :=
  match dst with
  | some d => upd env d r
  | none => env

def evalOps (call : Callf) : List SOper → (Nat → Reg) → Mem → Nat → Option ((Nat → Reg) × Mem × Nat)
  | [], env, m, n => some (env, m, n)
  | o :: os, env, m, n =>
    match wantedS env o with
    | true => match evalOp call env m n o.op with
      | some (r, m', n') => evalOps call os (putE env o.dst r) m' n'
      | none => none
    | false => evalOps call os (putE env o.dst (.tup [])) m n
end Go.Proofs.Ytkdbnmohpanpfaa.Sy
