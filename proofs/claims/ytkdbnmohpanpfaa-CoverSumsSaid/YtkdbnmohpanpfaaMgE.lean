import Derived.Test.YtkdbnmohpanpfaaMgD
import Derived.RowKit
import Derived.Laws.Bits64
import Derived.Laws.BitsLemmas
import Derived.Laws.MathBits
import Derived.Lib.Mul64
/- An evaluator of a part of Go's operations over a memory of its own, part sixteen: words for walks by it. Conditions: those that each theorem names. -/
namespace Go.Proofs.Ytkdbnmohpanpfaa.Sy
open Go
set_option linter.unusedVariables false
set_option linter.unusedSimpArgs false

/-- From the evaluator to the machine: a law that comes to true; where path.walk is ranged over. -/
theorem law_callsW {P : Program} {ng : Nat} {T : Nat → Option SFun} {mds : Nat → Nat → Mode} {clss : Nat → Nat → List (List Nat) × List (Nat × Nat)} {rf : Option (Nat × Nat)} (hW : ∀ fi nd, rf = some (fi, nd) → WalkOK P ng fi nd) (hmix : P.follows .mixedOrders = true)
    (hT : ∀ f sf, T f = some sf → FunOK P ng (mds f) (clss f) rf f sf) {f : Nat} {args : List Reg} {m : Mem} {n : Nat} (h : Fn T f args m n (fun r _ _ => r = .one (.sc (.bool true))))
    {ρ : Loc} {w : World} {vs : List Value} (hm : MRel ρ n w m) (hg : Glob ng ρ n) (hargs : RRels ρ n w args vs) (hown : ∀ id b, m id = some b → b.own = false) :
    Calls P f vs.toArray w (fun e w' => e = .returned (.bool true) ∧ Go.RowKit.Below w.heap.size w w') := by
  obtain ⟨k, r, m', n', h1, rfl⟩ := h
  refine (run_ok hmix hW hT k f args m n _ m' n' h1 ρ w vs hm hg hargs).2.mono fun e w' he => ?_
  obtain ⟨v, ρ', rfl, h2, h3⟩ := he
  have hv := sc_inv h3
  subst hv
  exact ⟨rfl, h2.fr.below (fun k hk => by obtain ⟨id, b, h4, h5, _⟩ := hk; rw [hown id b h4] at h5; cases h5)⟩
/-- From the evaluator to the machine: a law that comes to true. -/
theorem law_calls {P : Program} {ng : Nat} {T : Nat → Option SFun} {mds : Nat → Nat → Mode} {clss : Nat → Nat → List (List Nat) × List (Nat × Nat)} (hmix : P.follows .mixedOrders = true)
    (hT : ∀ f sf, T f = some sf → FunOK P ng (mds f) (clss f) none f sf) {f : Nat} {args : List Reg} {m : Mem} {n : Nat} (h : Fn T f args m n (fun r _ _ => r = .one (.sc (.bool true))))
    {ρ : Loc} {w : World} {vs : List Value} (hm : MRel ρ n w m) (hg : Glob ng ρ n) (hargs : RRels ρ n w args vs) (hown : ∀ id b, m id = some b → b.own = false) :
    Calls P f vs.toArray w (fun e w' => e = .returned (.bool true) ∧ Go.RowKit.Below w.heap.size w w') :=
  law_callsW (fun _ _ h => by cases h) hmix hT h hm hg hargs hown

theorem noMem (ρ : Loc) (n : Nat) (w : World) : MRel ρ n w (fun _ => none) :=
  ⟨fun id b hb => (by cases hb), fun id b hb => (by cases hb), fun id b hb => (by cases hb), fun id b hb => (by cases hb), fun id b hb => (by cases hb)⟩

/-! ### numbers, Bools -/
abbrev I (n : Int) : Cell := .sc (.int .i64 n)
abbrev RI (n : Int) : Reg := .one (.sc (.int .i64 n))
abbrev RB (b : Bool) : Reg := .one (.sc (.bool b))
abbrev rnil : Reg := .one (.sc (.slice none 0 0))

theorem wr_eq {x : Int} (h0 : -9223372036854775808 ≤ x) (h1 : x ≤ 9223372036854775807) : IntKind.i64.wrap x = x := by
  simp [IntKind.wrap, IntKind.bits, IntKind.signed]; omega

section
variable {T : Nat → Option SFun} {d : Option Nat} {os : List SOper} {env : Nat → Reg} {Q : (Nat → Reg) → Mem → Nat → Prop}
theorem Then_some {r : Reg} {m : Mem} {n : Nat} : Then T d os env Q (some (r, m, n)) = R T os (putE env d r) m n Q := rfl
theorem Then_none : Then T d os env Q none = False := rfl
end

theorem upd_upd {α : Type} {f : Nat → α} {k : Nat} {x y : α} : upd (upd f k x) k y = upd f k y := by
  funext i
  unfold upd
  split <;> rfl
theorem unfrz_at {m m' : Mem} {n id : Nat} : unfrz m n m' id = if id < n then m id else m' id := rfl
theorem putE_some {env : Nat → Reg} {d : Nat} {r : Reg} : putE env (some d) r = upd env d r := rfl
theorem putE_none {env : Nat → Reg} {r : Reg} : putE env none r = env := rfl
theorem upd_at {α : Type} {f : Nat → α} {k i : Nat} {x : α} : upd f k x i = if i = k then x else f i := rfl

def condK (r : Reg) (p q : Prop) : Prop :=
  match r with
  | .one (.sc (.bool t)) => if t = true then p else q
  | _ => False
theorem condK_bool {t : Bool} {p q : Prop} : condK (RB t) p q = if t = true then p else q := rfl
theorem X_condK {T : Nat → Option SFun} {c : O} {a b : SC} {s : St} {Q : Ex → St → Prop} : X T (.cond c a b) s Q = condK (evO s.e c) (X T a s Q) (X T b s Q) := by
  unfold condK
  split
  · rename_i t h; exact X_cond h
  · rename_i h
    apply propext
    constructor
    · rintro ⟨k, e, s', h1, h2⟩
      simp only [exec] at h1
      first
        | (cases h1; done)
        | (split at h1
           · rename_i t ht; exact absurd ht (h t)
           · cases h1)
    · exact fun h => h.elim

theorem boolOf_b {b : Bool} : boolOf (RB b) = some b := rfl
theorem boolOf_tup {rs : List Reg} : boolOf (.tup rs) = none := rfl

section
variable {a b : Int}
theorem bin_add : binV .add (.int .i64 a) (.int .i64 b) = some (.int .i64 (IntKind.i64.wrap (a + b))) := rfl
theorem bin_sub : binV .sub (.int .i64 a) (.int .i64 b) = some (.int .i64 (IntKind.i64.wrap (a - b))) := rfl
theorem bin_mul : binV .mul (.int .i64 a) (.int .i64 b) = some (.int .i64 (IntKind.i64.wrap (a * b))) := rfl
theorem bin_lss : binV .lss (.int .i64 a) (.int .i64 b) = some (.bool (decide (a < b))) := rfl
theorem bin_leq : binV .leq (.int .i64 a) (.int .i64 b) = some (.bool (decide (a ≤ b))) := rfl
theorem bin_gtr : binV .gtr (.int .i64 a) (.int .i64 b) = some (.bool (decide (b < a))) := rfl
theorem bin_geq : binV .geq (.int .i64 a) (.int .i64 b) = some (.bool (decide (b ≤ a))) := rfl
theorem bin_eql : binV .eql (.int .i64 a) (.int .i64 b) = some (.bool (decide (a = b))) := rfl
theorem bin_neq : binV .neq (.int .i64 a) (.int .i64 b) = some (.bool (!decide (a = b))) := rfl
theorem bin_quo (h : b ≠ 0) : binV .quo (.int .i64 a) (.int .i64 b) = some (.int .i64 (IntKind.i64.wrap (a.tdiv b))) := by simp [binV, h]
theorem bin_rem (h : b ≠ 0) : binV .rem (.int .i64 a) (.int .i64 b) = some (.int .i64 (a.tmod b)) := by simp [binV, h]
theorem bin_shl (h : 0 ≤ b) (h1 : b ≤ 64) : binV .shl (.int .i64 a) (.int .i64 b) = some (.int .i64 (IntKind.i64.wrap (a * 2 ^ b.toNat))) := by
  have : ¬ b < 0 := by omega
  have h2 : min b.toNat IntKind.i64.bits = b.toNat := by simp [IntKind.bits]; omega
  simp [binV, this, h2]
theorem bin_shr (h : 0 ≤ b) (h1 : b ≤ 64) : binV .shr (.int .i64 a) (.int .i64 b) = some (.int .i64 (a.fdiv (2 ^ b.toNat))) := by
  have : ¬ b < 0 := by omega
  have h2 : min b.toNat IntKind.i64.bits = b.toNat := by simp [IntKind.bits]; omega
  simp [binV, this, h2]
theorem bin_shr1 {k : IntKind} : binV .shr (.int .i64 a) (.int k 1) = some (.int .i64 (a / 2)) := by
  show some (Value.int .i64 (a.fdiv (2 ^ 1))) = _
  rw [Int.fdiv_eq_ediv_of_nonneg _ (by decide)]; rfl
theorem un_not {t : Bool} : unV .not (.bool t) = some (.bool !t) := rfl
theorem un_neg : unV .neg (.int .i64 a) = some (.int .i64 (IntKind.i64.wrap (0 - a))) := rfl
end

def lenO (r : Reg) : Option Int :=
  match r with
  | .one (.sl _ _ len _ _) => some len
  | .one (.sc (.slice _ 0 0)) => some 0
  | _ => none
theorem lenO_sl {id off len sz : Nat} {cap : Option Nat} : lenO (.one (.sl id off len cap sz)) = some (len : Int) := rfl
theorem lenO_nil : lenO rnil = some 0 := rfl
theorem lenO_none {a : Option Addr} : lenO (.one (.sc (.slice a 0 0))) = some 0 := rfl

section
variable {T : Nat → Option SFun} {d : Option Nat} {os : List SOper} {env : Nat → Reg} {m : Mem} {n : Nat} {Q : (Nat → Reg) → Mem → Nat → Prop}
theorem R_mv {x : O} : R T (⟨d, .mv x, none⟩ :: os) env m n Q = Then T d os env Q (evalOp noCall env m n (.mv x)) := R_op rfl
theorem R_pick {x : O} {y : O} {z : O} : R T (⟨d, .pick x y z, none⟩ :: os) env m n Q = Then T d os env Q (evalOp noCall env m n (.pick x y z)) := R_op rfl
theorem R_alloc {zz : List Cell} : R T (⟨d, .alloc zz, none⟩ :: os) env m n Q = Then T d os env Q (evalOp noCall env m n (.alloc zz)) := R_op rfl
theorem R_box {x : O} : R T (⟨d, .box x, none⟩ :: os) env m n Q = Then T d os env Q (evalOp noCall env m n (.box x)) := R_op rfl
theorem R_build {zz : List Cell} {ps : List (Nat × Nat × O)} : R T (⟨d, .build zz ps, none⟩ :: os) env m n Q = Then T d os env Q (evalOp noCall env m n (.build zz ps)) := R_op rfl
theorem R_bslice {zz : List Cell} {k1 : Nat} {k2 : Nat} {ps : List (Nat × Nat × O)} : R T (⟨d, .bslice zz k1 k2 ps, none⟩ :: os) env m n Q = Then T d os env Q (evalOp noCall env m n (.bslice zz k1 k2 ps)) := R_op rfl
theorem R_load1 {x : O} : R T (⟨d, .load1 x, none⟩ :: os) env m n Q = Then T d os env Q (evalOp noCall env m n (.load1 x)) := R_op rfl
theorem R_loadA {k1 : Nat} {x : O} : R T (⟨d, .loadA k1 x, none⟩ :: os) env m n Q = Then T d os env Q (evalOp noCall env m n (.loadA k1 x)) := R_op rfl
theorem R_store {k1 : Nat} {x : O} {y : O} : R T (⟨d, .store k1 x y, none⟩ :: os) env m n Q = Then T d os env Q (evalOp noCall env m n (.store k1 x y)) := R_op rfl
theorem R_nilchk {x : O} : R T (⟨d, .nilchk x, none⟩ :: os) env m n Q = Then T d os env Q (evalOp noCall env m n (.nilchk x)) := R_op rfl
theorem R_bin {bo : BinOp} {x : O} {y : O} : R T (⟨d, .bin bo x y, none⟩ :: os) env m n Q = Then T d os env Q (evalOp noCall env m n (.bin bo x y)) := R_op rfl
theorem R_beq {bb : Bool} {x : O} {y : O} : R T (⟨d, .beq bb x y, none⟩ :: os) env m n Q = Then T d os env Q (evalOp noCall env m n (.beq bb x y)) := R_op rfl
theorem R_eqv {ks : List Sk} {bb : Bool} {x : O} {y : O} : R T (⟨d, .eqv ks bb x y, none⟩ :: os) env m n Q = Then T d os env Q (evalOp noCall env m n (.eqv ks bb x y)) := R_op rfl
theorem R_eqnil {k1 : Nat} {bb : Bool} {x : O} : R T (⟨d, .eqnil k1 bb x, none⟩ :: os) env m n Q = Then T d os env Q (evalOp noCall env m n (.eqnil k1 bb x)) := R_op rfl
theorem R_un {uo : UnOp} {x : O} : R T (⟨d, .un uo x, none⟩ :: os) env m n Q = Then T d os env Q (evalOp noCall env m n (.un uo x)) := R_op rfl
theorem R_conv {ik : IntKind} {x : O} : R T (⟨d, .conv ik x, none⟩ :: os) env m n Q = Then T d os env Q (evalOp noCall env m n (.conv ik x)) := R_op rfl
theorem R_mkfn {k1 : Nat} {xs : List O} : R T (⟨d, .mkfn k1 xs, none⟩ :: os) env m n Q = Then T d os env Q (evalOp noCall env m n (.mkfn k1 xs)) := R_op rfl
theorem R_mkslice {zz : List Cell} {k1 : Nat} {k2 : Nat} {x : O} {y : O} : R T (⟨d, .mkslice zz k1 k2 x y, none⟩ :: os) env m n Q = Then T d os env Q (evalOp noCall env m n (.mkslice zz k1 k2 x y)) := R_op rfl
theorem R_pre {r : Reg} {xs : List O} : R T (⟨d, .pre r xs, none⟩ :: os) env m n Q = Then T d os env Q (evalOp noCall env m n (.pre r xs)) := R_op rfl
theorem R_appz {zz : List Cell} {k1 : Nat} {k2 : Nat} {x : O} {y : O} : R T (⟨d, .appz zz k1 k2 x y, none⟩ :: os) env m n Q = Then T d os env Q (evalOp noCall env m n (.appz zz k1 k2 x y)) := R_op rfl
theorem R_slS {k1 : Nat} {x : O} {l1 : Option O} {l2 : Option O} {l3 : Option O} : R T (⟨d, .slS k1 x l1 l2 l3, none⟩ :: os) env m n Q = Then T d os env Q (evalOp noCall env m n (.slS k1 x l1 l2 l3)) := R_op rfl
theorem R_slA {k1 : Nat} {k2 : Nat} {x : O} {l1 : Option O} {l2 : Option O} {l3 : Option O} : R T (⟨d, .slA k1 k2 x l1 l2 l3, none⟩ :: os) env m n Q = Then T d os env Q (evalOp noCall env m n (.slA k1 k2 x l1 l2 l3)) := R_op rfl
theorem R_fadr {k1 : Nat} {x : O} : R T (⟨d, .fadr k1 x, none⟩ :: os) env m n Q = Then T d os env Q (evalOp noCall env m n (.fadr k1 x)) := R_op rfl
theorem R_fld {k1 : Nat} {k2 : Nat} {bb : Bool} {x : O} : R T (⟨d, .fld k1 k2 bb x, none⟩ :: os) env m n Q = Then T d os env Q (evalOp noCall env m n (.fld k1 k2 bb x)) := R_op rfl
theorem R_iadrA {k1 : Nat} {k2 : Nat} {x : O} {y : O} : R T (⟨d, .iadrA k1 k2 x y, none⟩ :: os) env m n Q = Then T d os env Q (evalOp noCall env m n (.iadrA k1 k2 x y)) := R_op rfl
theorem R_iadrS {k1 : Nat} {x : O} {y : O} : R T (⟨d, .iadrS k1 x y, none⟩ :: os) env m n Q = Then T d os env Q (evalOp noCall env m n (.iadrS k1 x y)) := R_op rfl
theorem R_istr {l : List Nat} {x : O} : R T (⟨d, .istr l x, none⟩ :: os) env m n Q = Then T d os env Q (evalOp noCall env m n (.istr l x)) := R_op rfl
theorem R_idxA {k1 : Nat} {k2 : Nat} {bb : Bool} {x : O} {y : O} : R T (⟨d, .idxA k1 k2 bb x y, none⟩ :: os) env m n Q = Then T d os env Q (evalOp noCall env m n (.idxA k1 k2 bb x y)) := R_op rfl
theorem R_ext {x : O} {k1 : Nat} : R T (⟨d, .ext x k1, none⟩ :: os) env m n Q = Then T d os env Q (evalOp noCall env m n (.ext x k1)) := R_op rfl
theorem R_len {x : O} : R T (⟨d, .len x, none⟩ :: os) env m n Q = Then T d os env Q ((lenO (evO env x)).map fun k => (RI k, m, n)) := by
  rw [R_op rfl]
  congr 1
  simp only [evalOp, lenO]
  split <;> simp_all
theorem R_lenC {k1 : Nat} : R T (⟨d, .lenC k1, none⟩ :: os) env m n Q = Then T d os env Q (evalOp noCall env m n (.lenC k1)) := R_op rfl
theorem R_cap {x : O} : R T (⟨d, .cap x, none⟩ :: os) env m n Q = Then T d os env Q (evalOp noCall env m n (.cap x)) := R_op rfl
theorem R_app {k1 : Nat} {k2 : Nat} {x : O} {y : O} : R T (⟨d, .app k1 k2 x y, none⟩ :: os) env m n Q = Then T d os env Q (evalOp noCall env m n (.app k1 k2 x y)) := R_op rfl
theorem R_cpy {k1 : Nat} {x : O} {y : O} : R T (⟨d, .cpy k1 x y, none⟩ :: os) env m n Q = Then T d os env Q (evalOp noCall env m n (.cpy k1 x y)) := R_op rfl
theorem R_mn {xs : List O} : R T (⟨d, .mn xs, none⟩ :: os) env m n Q = Then T d os env Q (evalOp noCall env m n (.mn xs)) := R_op rfl
theorem R_mx {xs : List O} : R T (⟨d, .mx xs, none⟩ :: os) env m n Q = Then T d os env Q (evalOp noCall env m n (.mx xs)) := R_op rfl
end


/-! ### numbers that differ -/
section
variable {n : Nat}
theorem sn1 : (n = n + 1) = False := eq_false (by omega)
theorem ns1 : (n + 1 = n) = False := eq_false (by omega)
theorem sn2 : (n = n + 1 + 1) = False := eq_false (by omega)
theorem ns2 : (n + 1 + 1 = n) = False := eq_false (by omega)
theorem sn3 : (n = n + 1 + 1 + 1) = False := eq_false (by omega)
theorem ns3 : (n + 1 + 1 + 1 = n) = False := eq_false (by omega)
theorem sn4 : (n = n + 1 + 1 + 1 + 1) = False := eq_false (by omega)
theorem ns4 : (n + 1 + 1 + 1 + 1 = n) = False := eq_false (by omega)
theorem sn5 : (n = n + 1 + 1 + 1 + 1 + 1) = False := eq_false (by omega)
theorem ns5 : (n + 1 + 1 + 1 + 1 + 1 = n) = False := eq_false (by omega)
theorem sn6 : (n = n + 1 + 1 + 1 + 1 + 1 + 1) = False := eq_false (by omega)
theorem ns6 : (n + 1 + 1 + 1 + 1 + 1 + 1 = n) = False := eq_false (by omega)
theorem sn7 : (n = n + 1 + 1 + 1 + 1 + 1 + 1 + 1) = False := eq_false (by omega)
theorem ns7 : (n + 1 + 1 + 1 + 1 + 1 + 1 + 1 = n) = False := eq_false (by omega)
theorem sn8 : (n = n + 1 + 1 + 1 + 1 + 1 + 1 + 1 + 1) = False := eq_false (by omega)
theorem ns8 : (n + 1 + 1 + 1 + 1 + 1 + 1 + 1 + 1 = n) = False := eq_false (by omega)
theorem sn9 : (n = n + 1 + 1 + 1 + 1 + 1 + 1 + 1 + 1 + 1) = False := eq_false (by omega)
theorem ns9 : (n + 1 + 1 + 1 + 1 + 1 + 1 + 1 + 1 + 1 = n) = False := eq_false (by omega)
theorem sn10 : (n = n + 1 + 1 + 1 + 1 + 1 + 1 + 1 + 1 + 1 + 1) = False := eq_false (by omega)
theorem ns10 : (n + 1 + 1 + 1 + 1 + 1 + 1 + 1 + 1 + 1 + 1 = n) = False := eq_false (by omega)
theorem sn11 : (n = n + 1 + 1 + 1 + 1 + 1 + 1 + 1 + 1 + 1 + 1 + 1) = False := eq_false (by omega)
theorem ns11 : (n + 1 + 1 + 1 + 1 + 1 + 1 + 1 + 1 + 1 + 1 + 1 = n) = False := eq_false (by omega)
theorem sn12 : (n = n + 1 + 1 + 1 + 1 + 1 + 1 + 1 + 1 + 1 + 1 + 1 + 1) = False := eq_false (by omega)
theorem ns12 : (n + 1 + 1 + 1 + 1 + 1 + 1 + 1 + 1 + 1 + 1 + 1 + 1 = n) = False := eq_false (by omega)
theorem sk1_2 : (n + 1 = n + 1 + 1) = False := eq_false (by omega)
theorem sk1_3 : (n + 1 = n + 1 + 1 + 1) = False := eq_false (by omega)
theorem sk1_4 : (n + 1 = n + 1 + 1 + 1 + 1) = False := eq_false (by omega)
theorem sk1_5 : (n + 1 = n + 1 + 1 + 1 + 1 + 1) = False := eq_false (by omega)
theorem sk1_6 : (n + 1 = n + 1 + 1 + 1 + 1 + 1 + 1) = False := eq_false (by omega)
theorem sk1_7 : (n + 1 = n + 1 + 1 + 1 + 1 + 1 + 1 + 1) = False := eq_false (by omega)
theorem sk1_8 : (n + 1 = n + 1 + 1 + 1 + 1 + 1 + 1 + 1 + 1) = False := eq_false (by omega)
theorem sk2_1 : (n + 1 + 1 = n + 1) = False := eq_false (by omega)
theorem sk2_3 : (n + 1 + 1 = n + 1 + 1 + 1) = False := eq_false (by omega)
theorem sk2_4 : (n + 1 + 1 = n + 1 + 1 + 1 + 1) = False := eq_false (by omega)
theorem sk2_5 : (n + 1 + 1 = n + 1 + 1 + 1 + 1 + 1) = False := eq_false (by omega)
theorem sk2_6 : (n + 1 + 1 = n + 1 + 1 + 1 + 1 + 1 + 1) = False := eq_false (by omega)
theorem sk2_7 : (n + 1 + 1 = n + 1 + 1 + 1 + 1 + 1 + 1 + 1) = False := eq_false (by omega)
theorem sk2_8 : (n + 1 + 1 = n + 1 + 1 + 1 + 1 + 1 + 1 + 1 + 1) = False := eq_false (by omega)
theorem sk3_1 : (n + 1 + 1 + 1 = n + 1) = False := eq_false (by omega)
theorem sk3_2 : (n + 1 + 1 + 1 = n + 1 + 1) = False := eq_false (by omega)
theorem sk3_4 : (n + 1 + 1 + 1 = n + 1 + 1 + 1 + 1) = False := eq_false (by omega)
theorem sk3_5 : (n + 1 + 1 + 1 = n + 1 + 1 + 1 + 1 + 1) = False := eq_false (by omega)
theorem sk3_6 : (n + 1 + 1 + 1 = n + 1 + 1 + 1 + 1 + 1 + 1) = False := eq_false (by omega)
theorem sk3_7 : (n + 1 + 1 + 1 = n + 1 + 1 + 1 + 1 + 1 + 1 + 1) = False := eq_false (by omega)
theorem sk3_8 : (n + 1 + 1 + 1 = n + 1 + 1 + 1 + 1 + 1 + 1 + 1 + 1) = False := eq_false (by omega)
theorem sk4_1 : (n + 1 + 1 + 1 + 1 = n + 1) = False := eq_false (by omega)
theorem sk4_2 : (n + 1 + 1 + 1 + 1 = n + 1 + 1) = False := eq_false (by omega)
theorem sk4_3 : (n + 1 + 1 + 1 + 1 = n + 1 + 1 + 1) = False := eq_false (by omega)
theorem sk4_5 : (n + 1 + 1 + 1 + 1 = n + 1 + 1 + 1 + 1 + 1) = False := eq_false (by omega)
theorem sk4_6 : (n + 1 + 1 + 1 + 1 = n + 1 + 1 + 1 + 1 + 1 + 1) = False := eq_false (by omega)
theorem sk4_7 : (n + 1 + 1 + 1 + 1 = n + 1 + 1 + 1 + 1 + 1 + 1 + 1) = False := eq_false (by omega)
theorem sk4_8 : (n + 1 + 1 + 1 + 1 = n + 1 + 1 + 1 + 1 + 1 + 1 + 1 + 1) = False := eq_false (by omega)
theorem sk5_1 : (n + 1 + 1 + 1 + 1 + 1 = n + 1) = False := eq_false (by omega)
theorem sk5_2 : (n + 1 + 1 + 1 + 1 + 1 = n + 1 + 1) = False := eq_false (by omega)
theorem sk5_3 : (n + 1 + 1 + 1 + 1 + 1 = n + 1 + 1 + 1) = False := eq_false (by omega)
theorem sk5_4 : (n + 1 + 1 + 1 + 1 + 1 = n + 1 + 1 + 1 + 1) = False := eq_false (by omega)
theorem sk5_6 : (n + 1 + 1 + 1 + 1 + 1 = n + 1 + 1 + 1 + 1 + 1 + 1) = False := eq_false (by omega)
theorem sk5_7 : (n + 1 + 1 + 1 + 1 + 1 = n + 1 + 1 + 1 + 1 + 1 + 1 + 1) = False := eq_false (by omega)
theorem sk5_8 : (n + 1 + 1 + 1 + 1 + 1 = n + 1 + 1 + 1 + 1 + 1 + 1 + 1 + 1) = False := eq_false (by omega)
theorem sk6_1 : (n + 1 + 1 + 1 + 1 + 1 + 1 = n + 1) = False := eq_false (by omega)
theorem sk6_2 : (n + 1 + 1 + 1 + 1 + 1 + 1 = n + 1 + 1) = False := eq_false (by omega)
theorem sk6_3 : (n + 1 + 1 + 1 + 1 + 1 + 1 = n + 1 + 1 + 1) = False := eq_false (by omega)
theorem sk6_4 : (n + 1 + 1 + 1 + 1 + 1 + 1 = n + 1 + 1 + 1 + 1) = False := eq_false (by omega)
theorem sk6_5 : (n + 1 + 1 + 1 + 1 + 1 + 1 = n + 1 + 1 + 1 + 1 + 1) = False := eq_false (by omega)
theorem sk6_7 : (n + 1 + 1 + 1 + 1 + 1 + 1 = n + 1 + 1 + 1 + 1 + 1 + 1 + 1) = False := eq_false (by omega)
theorem sk6_8 : (n + 1 + 1 + 1 + 1 + 1 + 1 = n + 1 + 1 + 1 + 1 + 1 + 1 + 1 + 1) = False := eq_false (by omega)
theorem sk7_1 : (n + 1 + 1 + 1 + 1 + 1 + 1 + 1 = n + 1) = False := eq_false (by omega)
theorem sk7_2 : (n + 1 + 1 + 1 + 1 + 1 + 1 + 1 = n + 1 + 1) = False := eq_false (by omega)
theorem sk7_3 : (n + 1 + 1 + 1 + 1 + 1 + 1 + 1 = n + 1 + 1 + 1) = False := eq_false (by omega)
theorem sk7_4 : (n + 1 + 1 + 1 + 1 + 1 + 1 + 1 = n + 1 + 1 + 1 + 1) = False := eq_false (by omega)
theorem sk7_5 : (n + 1 + 1 + 1 + 1 + 1 + 1 + 1 = n + 1 + 1 + 1 + 1 + 1) = False := eq_false (by omega)
theorem sk7_6 : (n + 1 + 1 + 1 + 1 + 1 + 1 + 1 = n + 1 + 1 + 1 + 1 + 1 + 1) = False := eq_false (by omega)
theorem sk7_8 : (n + 1 + 1 + 1 + 1 + 1 + 1 + 1 = n + 1 + 1 + 1 + 1 + 1 + 1 + 1 + 1) = False := eq_false (by omega)
theorem sk8_1 : (n + 1 + 1 + 1 + 1 + 1 + 1 + 1 + 1 = n + 1) = False := eq_false (by omega)
theorem sk8_2 : (n + 1 + 1 + 1 + 1 + 1 + 1 + 1 + 1 = n + 1 + 1) = False := eq_false (by omega)
theorem sk8_3 : (n + 1 + 1 + 1 + 1 + 1 + 1 + 1 + 1 = n + 1 + 1 + 1) = False := eq_false (by omega)
theorem sk8_4 : (n + 1 + 1 + 1 + 1 + 1 + 1 + 1 + 1 = n + 1 + 1 + 1 + 1) = False := eq_false (by omega)
theorem sk8_5 : (n + 1 + 1 + 1 + 1 + 1 + 1 + 1 + 1 = n + 1 + 1 + 1 + 1 + 1) = False := eq_false (by omega)
theorem sk8_6 : (n + 1 + 1 + 1 + 1 + 1 + 1 + 1 + 1 = n + 1 + 1 + 1 + 1 + 1 + 1) = False := eq_false (by omega)
theorem sk8_7 : (n + 1 + 1 + 1 + 1 + 1 + 1 + 1 + 1 = n + 1 + 1 + 1 + 1 + 1 + 1 + 1) = False := eq_false (by omega)
end

theorem pack_one {r : Reg} : pack [r] = r := rfl
theorem pack_two {r s : Reg} : pack [r, s] = .tup [r, s] := rfl
theorem pack_three {r s t : Reg} : pack [r, s, t] = .tup [r, s, t] := rfl
theorem pack_none : pack [] = .tup [] := rfl
theorem getD_nil {t : Nat} : ([] : List Reg).getD t (.tup []) = .tup [] := by simp

/-! ### slices that are read -/
def Rd (m : Mem) (n : Nat) (r : Reg) (cs : List Cell) (len sz : Nat) : Prop :=
  (r = rnil ∧ len = 0 ∧ cs = []) ∨ ∃ id off cap, r = .one (.sl id off len cap sz) ∧ id < n ∧ rd m id off (len * sz) = some cs

theorem rd_frz (m : Mem) (id off k : Nat) : rd (frz m) id off k = rd m id off k := by
  unfold rd frz
  cases m id <;> rfl

theorem rd_len {m : Mem} {id off k : Nat} {cs : List Cell} (h : rd m id off k = some cs) : cs.length = k := by
  unfold rd at h
  split at h
  case h_2 => cases h
  split at h
  case isFalse => cases h
  cases h
  simp; omega

/-- A part of what is read. -/
theorem rd_part {m : Mem} {id off k a b : Nat} {cs : List Cell} (h : rd m id off k = some cs) (hab : a + b ≤ k) : rd m id (off + a) b = some ((cs.drop a).take b) := by
  unfold rd at h ⊢
  split at h
  case h_2 => cases h
  rename_i blk hb
  split at h
  case isFalse => cases h
  rename_i hle
  cases h
  rw [if_pos (by omega)]
  congr 1
  rw [List.drop_take, List.take_take, List.drop_drop]
  congr 1
  omega

theorem rd_cell {m : Mem} {id off k a : Nat} {cs : List Cell} {c : Cell} (h : rd m id off k = some cs) (hc : cs[a]? = some c) : ∃ b, m id = some b ∧ b.cells[off + a]? = some c := by
  have hl := rd_len h
  unfold rd at h
  split at h
  case h_2 => cases h
  rename_i blk hb
  split at h
  case isFalse => cases h
  rename_i hle
  cases h
  have ha : a < k := by rw [← hl]; exact (List.getElem?_eq_some_iff.1 hc).1
  refine ⟨blk, hb, ?_⟩
  rwa [List.getElem?_take_of_lt ha, List.getElem?_drop] at hc

theorem Rd.frz {m : Mem} {n : Nat} {r : Reg} {cs : List Cell} {len sz : Nat} (h : Rd m n r cs len sz) : Rd (frz m) n r cs len sz := by
  rcases h with h | ⟨id, off, cap, h1, h2, h3⟩
  · exact Or.inl h
  · exact Or.inr ⟨id, off, cap, h1, h2, by rw [rd_frz]; exact h3⟩

/-- What is read stays, where the old memory stays. -/
theorem Rd.keep {m m' : Mem} {n n' : Nat} {r : Reg} {cs : List Cell} {len sz : Nat} (h : Rd m n r cs len sz) (hn : n ≤ n') (hm : ∀ id, id < n → m' id = m id) : Rd m' n' r cs len sz := by
  rcases h with h | ⟨id, off, cap, h1, h2, h3⟩
  · exact Or.inl h
  · refine Or.inr ⟨id, off, cap, h1, by omega, ?_⟩
    have : rd m' id off (len * sz) = rd m id off (len * sz) := by unfold rd; rw [hm id h2]
    rw [this]; exact h3

theorem Rd.len {m : Mem} {n : Nat} {r : Reg} {cs : List Cell} {len sz : Nat} (h : Rd m n r cs len sz) : lenO r = some (len : Int) := by
  rcases h with ⟨rfl, rfl, rfl⟩ | ⟨id, off, cap, rfl, h2, h3⟩ <;> rfl
theorem len_Rd {call : Callf} {env : Nat → Reg} {m : Mem} {n : Nat} {r : Reg} {cs : List Cell} {len sz : Nat} {x : O} (h : Rd m n r cs len sz) (hx : evO env x = r) : evalOp call env m n (.len x) = some (RI len, m, n) := by
  rcases h with ⟨rfl, rfl, rfl⟩ | ⟨id, off, cap, rfl, h2, h3⟩ <;> simp [evalOp, hx]

def rdB (b : Blk) (off k : Nat) : Option (List Cell) := if off + k ≤ b.cells.length then some ((b.cells.drop off).take k) else none
theorem rd_upd {m : Mem} {k id off j : Nat} {b : Blk} : rd (upd m k (some b)) id off j = if id = k then rdB b off j else rd m id off j := by
  unfold rd rdB
  by_cases h : id = k
  · subst h; rw [upd_same, if_pos rfl]
  · rw [upd_ne _ _ h, if_neg h]
theorem lt0 {id n : Nat} (h : id < n) : (id = n) = False := eq_false (by omega)
theorem lt1 {id n : Nat} (h : id < n) : (id = n + 1) = False := eq_false (by omega)
theorem lt2 {id n : Nat} (h : id < n) : (id = n + 1 + 1) = False := eq_false (by omega)
theorem lt3 {id n : Nat} (h : id < n) : (id = n + 1 + 1 + 1) = False := eq_false (by omega)
theorem lt4 {id n : Nat} (h : id < n) : (id = n + 1 + 1 + 1 + 1) = False := eq_false (by omega)
theorem wr_nat {i : Nat} (h : i < 4294967296) : IntKind.i64.wrap ((i : Int) + 1) = ((i + 1 : Nat) : Int) := by
  rw [wr_eq (by omega) (by omega)]; rfl

/-- Rows of records: the record i. -/
theorem flatMap_at {α : Type} (enc : α → List Cell) (sz : Nat) (hsz : ∀ x, (enc x).length = sz) : ∀ (l : List α) (i : Nat) (x : α), l[i]? = some x → ((l.flatMap enc).drop (i * sz)).take sz = enc x
  | [], i, x, h => by simp at h
  | y :: l, 0, x, h => by
    simp only [List.getElem?_cons_zero, Option.some.injEq] at h
    subst h
    rw [Nat.zero_mul, List.drop_zero, List.flatMap_cons, List.take_append_of_le_length (by rw [hsz]; exact Nat.le_refl _), List.take_of_length_le (by rw [hsz]; exact Nat.le_refl _)]
  | y :: l, i + 1, x, h => by
    rw [List.flatMap_cons, List.drop_append, List.drop_of_length_le (by rw [hsz, Nat.add_mul]; omega), List.nil_append, hsz, show (i + 1) * sz - sz = i * sz by rw [Nat.add_mul]; omega]
    exact flatMap_at enc sz hsz l i x (by simpa using h)
theorem flatMap_len {α : Type} (enc : α → List Cell) (sz : Nat) (hsz : ∀ x, (enc x).length = sz) (l : List α) : (l.flatMap enc).length = l.length * sz := by
  induction l with
  | nil => simp
  | cons x l ih => rw [List.flatMap_cons, List.length_append, hsz, ih, List.length_cons, Nat.add_mul]; omega
theorem rd_at {α : Type} {enc : α → List Cell} {sz : Nat} (hsz : ∀ x, (enc x).length = sz) {m : Mem} {id off : Nat} {l : List α} {i : Nat} {x : α} (h : rd m id off (l.length * sz) = some (l.flatMap enc)) (hi : l[i]? = some x) : rd m id (off + i * sz) sz = some (enc x) := by
  have hlt : i < l.length := (List.getElem?_eq_some_iff.1 hi).1
  have h1 : i * sz + sz ≤ l.length * sz := by
    have := Nat.mul_le_mul_right sz (show i + 1 ≤ l.length from hlt)
    rw [Nat.add_mul] at this; omega
  rw [rd_part h h1, flatMap_at enc sz hsz l i x hi]

/-! ### rules that do not hold for any memory -/
theorem R_then {T : Nat → Option SFun} {d : Option Nat} {op : SOp} {os : List SOper} {env : Nat → Reg} {m m' : Mem} {n n' : Nat} {r : Reg} {Q : (Nat → Reg) → Mem → Nat → Prop} (hc : isCall op = false)
    (h : evalOp noCall env m n op = some (r, m', n')) (hR : R T os (putE env d r) m' n' Q) : R T (⟨d, op, none⟩ :: os) env m n Q := by
  rw [R_op hc, h]
  exact hR
end Go.Proofs.Ytkdbnmohpanpfaa.Sy

/- An evaluator of a part of Go's operations over a memory of its own, part seventeen: calls told as_ values. Conditions: those that each theorem names. -/
namespace Go.Proofs.Ytkdbnmohpanpfaa.Sy
open Go
set_option linter.unusedVariables false
set_option linter.unusedSimpArgs false

open Classical in
/-- A function's answer, whatever the rounds. -/
noncomputable def callR (T : Nat → Option SFun) : Callf := fun f a m n => if h : ∃ x, ∃ k, run T k f a m n = some x then some (Classical.choose h) else none

theorem callR_of {T : Nat → Option SFun} {k f : Nat} {a : List Reg} {m : Mem} {n : Nat} {x : Reg × Mem × Nat} (h : run T k f a m n = some x) : callR T f a m n = some x := by
  have hx : ∃ x, ∃ k, run T k f a m n = some x := ⟨x, k, h⟩
  unfold callR
  rw [dif_pos hx]
  obtain ⟨k2, h2⟩ := Classical.choose_spec hx
  have e1 := run_mono (Nat.le_max_left k k2) _ _ _ _ _ h
  have e2 := run_mono (Nat.le_max_right k k2) _ _ _ _ _ h2
  rw [e1] at e2
  exact e2.symm ▸ rfl

theorem callR_inv {T : Nat → Option SFun} {f : Nat} {a : List Reg} {m : Mem} {n : Nat} {x : Reg × Mem × Nat} (h : callR T f a m n = some x) : ∃ k, run T k f a m n = some x := by
  unfold callR at h
  split at h
  case isFalse => cases h
  rename_i hx
  cases h
  exact Classical.choose_spec hx

theorem run_le {T : Nat → Option SFun} (k : Nat) : CallLe (run T k) (callR T) := fun _ _ _ _ _ h => callR_of h

theorem doCall_R {T : Nat → Option SFun} {md : Mode} {f : Nat} {a : List Reg} {m : Mem} {n : Nat} {x : Reg × Mem × Nat} (h : doCall (callR T) md f a m n = some x) : ∃ k, doCall (run T k) md f a m n = some x := by
  unfold doCall at h ⊢
  cases md with
  | q =>
    simp only at h ⊢
    split at h
    case h_2 => cases h
    rename_i r m1 n1 h1
    obtain ⟨k, hk⟩ := callR_inv h1
    exact ⟨k, by rw [hk]; exact h⟩
  | k =>
    simp only at h ⊢
    split at h
    case h_2 => cases h
    rename_i r m1 n1 h1
    obtain ⟨k, hk⟩ := callR_inv h1
    exact ⟨k, by rw [hk]; exact h⟩
  | w => exact callR_inv h
  | t =>
    simp only at h ⊢
    split at h
    case h_2 => cases h
    rename_i b hb
    split at h
    case isFalse => cases h
    rename_i hf
    split at h
    case h_2 => cases h
    rename_i r m1 n1 h1
    obtain ⟨k, hk⟩ := callR_inv h1
    exact ⟨k, by rw [if_pos hf, hk]; exact h⟩
  | z g =>
    simp only at h ⊢
    split at h
    case isFalse => cases h
    rename_i hf
    split at h
    case h_2 => cases h
    rename_i r m1 n1 h1
    obtain ⟨k, hk⟩ := callR_inv h1
    exact ⟨k, by rw [if_pos hf, hk]; exact h⟩

section
variable {T : Nat → Option SFun} {d : Option Nat} {os : List SOper} {env : Nat → Reg} {m : Mem} {n : Nat} {Q : (Nat → Reg) → Mem → Nat → Prop}

theorem R_call {md : Mode} {f : Nat} {xs : List O} : R T (⟨d, .call md f xs, none⟩ :: os) env m n Q = Then T d os env Q (doCall (callR T) md f (evOs env xs) m n) := by
  apply propext
  constructor
  · rintro ⟨k, e, m', n', h1, h2⟩
    simp only [evalOps, wantedS, evalOp] at h1
    split at h1
    case h_2 => cases h1
    rename_i r m1 n1 h3
    rw [doCall_mono (run_le k) h3]
    exact ⟨k, e, m', n', h1, h2⟩
  · intro h
    cases h3 : doCall (callR T) md f (evOs env xs) m n with
    | none => rw [h3] at h; exact h.elim
    | some y =>
      obtain ⟨r, m1, n1⟩ := y
      rw [h3] at h
      obtain ⟨k2, e, m', n', h1, h2⟩ := h
      obtain ⟨k1, hk⟩ := doCall_R h3
      refine ⟨max k1 k2, e, m', n', ?_, h2⟩
      simp only [evalOps, wantedS, evalOp]
      rw [doCall_mono (run_mono (Nat.le_max_left k1 k2)) hk]
      exact evalOps_mono (run_mono (Nat.le_max_right k1 k2)) h1

/-- A quiet function's answer. -/
noncomputable def callF (T : Nat → Option SFun) (f : Nat) (a : List Reg) (m : Mem) (n : Nat) : Option Reg := (callR T f a m n).map (·.1)
theorem callF_of {f : Nat} {a : List Reg} {r0 : Reg} (h : Fn T f a m n (fun r _ _ => r = r0)) : callF T f a m n = some r0 := by
  obtain ⟨k, r, m', n', h1, rfl⟩ := h
  unfold callF
  rw [callR_of h1]
  rfl

theorem evOs_c (rs : List Reg) : evOs env (rs.map O.c) = rs := by
  induction rs with
  | nil => rfl
  | cons r rs ih => simp [evOs, evO, ih]

end

theorem iter_mono {f : St → Option (Ex × St)} {x : Ex × St} : ∀ {j k : Nat} {s : St}, j ≤ k → iter f j s = some x → iter f k s = some x
  | 0, _, _, _, h => by simp [iter] at h
  | j + 1, 0, _, hle, _ => by omega
  | j + 1, k + 1, s, hle, h => by
    simp only [iter] at h ⊢
    cases h1 : f s with
    | none => rw [h1] at h; cases h
    | some y =>
      rw [h1] at h
      obtain ⟨e, s'⟩ := y
      cases e with
      | n => exact iter_mono (by omega) h
      | x id => exact h
      | r => exact h

theorem X_loopE {T : Nat → Option SFun} {b : SC} {s : St} {Q : Ex → St → Prop} : X T (.loop b) s Q = X T b s (Next Q (fun s' => X T (.loop b) s' Q)) := by
  apply propext
  constructor
  · rintro ⟨k, e, s', h1, h2⟩
    simp only [exec] at h1
    cases k with
    | zero => simp [iter] at h1
    | succ k =>
      simp only [iter] at h1
      cases h3 : exec (run T (k + 1)) (k + 1) b s with
      | none => rw [h3] at h1; cases h1
      | some y =>
        rw [h3] at h1
        obtain ⟨e1, s1⟩ := y
        cases e1 with
        | n => exact ⟨k + 1, .n, s1, h3, k + 1, e, s', by simp only [exec]; exact iter_mono (Nat.le_succ k) h1, h2⟩
        | x id => cases h1; exact ⟨k + 1, _, _, h3, h2⟩
        | r => cases h1; exact ⟨k + 1, _, _, h3, h2⟩
  · exact X_loop

/-! ### a walk as_ a machine: what comes later is data, so that a walk's simp does not look into it -/
inductive Kt where
  | top (Q : Ex → St → Prop)
  | fin (rs : List SRes) (Q : Reg → Mem → Nat → Prop)
  | seq (b : SC) (k : Kt)
  | blk (id : Nat) (k : Kt)
  | lp (b : SC) (k : Kt)
  | chk (dis : List (Nat × Nat)) (k : Kt)
  | chku (es : List Nat) (dis : List (Nat × Nat)) (m : Mem) (k : Kt)

section
variable {T : Nat → Option SFun}
def Kt.den (T : Nat → Option SFun) : Kt → Ex → St → Prop
  | .top Q => Q
  | .fin rs Q => Ret rs Q
  | .seq b k => Next (k.den T) (fun s => X T b s (k.den T))
  | .blk id k => Out id (k.den T)
  | .lp b k => Next (k.den T) (fun s => X T (.loop b) s (k.den T))
  | .chk dis k => Next (k.den T) (fun s => disOk s.e dis = true ∧ k.den T .n s)
  | .chku es dis m k => Next (k.den T) (fun s => (disOk s.e dis = true ∧ safeOk m s.e es = true) ∧ k.den T .n s)
def XK (T : Nat → Option SFun) (c : SC) (s : St) (k : Kt) : Prop := X T c s (k.den T)
def RK (T : Nat → Option SFun) (os : List SOper) (e : Nat → Reg) (m : Mem) (n : Nat) (k : Kt) : Prop := R T os e m n (fun e m n => k.den T .n ⟨e, m, n⟩)
def KN (T : Nat → Option SFun) (k : Kt) (s : St) : Prop := k.den T .n s
def KX (T : Nat → Option SFun) (k : Kt) (id : Nat) (s : St) : Prop := k.den T (.x id) s
def KR (T : Nat → Option SFun) (k : Kt) (s : St) : Prop := k.den T .r s
/-- A fork. -/
def FK (T : Nat → Option SFun) (r : Reg) (a b : SC) (s : St) (k : Kt) : Prop := condK r (XK T a s k) (XK T b s k)
/-- An operation behind a guard. -/
def GK (T : Nat → Option SFun) (t : Option Bool) (b : Bool) (d : Option Nat) (op : SOp) (os : List SOper) (e : Nat → Reg) (m : Mem) (n : Nat) (k : Kt) : Prop :=
  if t = some b then RK T (⟨d, op, none⟩ :: os) e m n k else RK T os (putE e d (.tup [])) m n k
def ThenK (T : Nat → Option SFun) (d : Option Nat) (os : List SOper) (e : Nat → Reg) (k : Kt) : Option (Reg × Mem × Nat) → Prop
  | some (r, m, n) => RK T os (putE e d r) m n k
  | none => False
def QK (T : Nat → Option SFun) (d : Option Nat) (os : List SOper) (e : Nat → Reg) (m : Mem) (n : Nat) (k : Kt) : Option Reg → Prop
  | some r => r.flat = true ∧ RK T os (putE e d r) m n k
  | none => False
def TKd (T : Nat → Option SFun) (d : Option Nat) (f : Nat) (as_ : List Reg) (os : List SOper) (e : Nat → Reg) (m : Mem) (n : Nat) (k : Kt) : Option Blk → Prop
  | some b => (flats as_ = true ∧ b.cells.all Cell.flat = true) ∧ QK T d os e m n k (callF T f as_ (tabM b.cells) 1)
  | none => False
def VK (T : Nat → Option SFun) (d : Option Nat) (md : Mode) (as_ : List Reg) (os : List SOper) (e : Nat → Reg) (m : Mem) (n : Nat) (k : Kt) : Reg → Prop
  | .one (.clo f caps) => RK T (⟨d, .call md f ((as_ ++ caps.map Reg.one).map O.c), none⟩ :: os) e m n k
  | _ => False
def plainOp : SOp → Bool
  | .call .. | .callv .. | .len .. => false
  | _ => true

variable {c : O} {a b : SC} {s : St} {k : Kt} {id j : Nat} {e : Nat → Reg} {m : Mem} {n : Nat} {d : Option Nat} {op : SOp} {os : List SOper}
theorem XK_seq : XK T (.seq a b) s k = XK T a s (.seq b k) := X_seq
theorem XK_block : XK T (.block id b) s k = XK T b s (.blk id k) := X_block
theorem XK_skip : XK T .skip s k = KN T k s := X_skip
theorem XK_exit : XK T (.exit id) s k = KX T k id s := X_exit
theorem XK_ret : XK T .ret s k = KR T k s := X_ret
theorem XK_cond : XK T (.cond c a b) s k = FK T (evO s.e c) a b s k := X_condK
theorem XK_reg : XK T (.reg os) s k = RK T os s.e s.m s.n k := X_reg
theorem XK_dreg {dis : List (Nat × Nat)} : XK T (.dreg dis os) s k = RK T os s.e s.m s.n (.chk dis k) := X_dreg
theorem XK_ureg {es : List Nat} {dis : List (Nat × Nat)} : XK T (.ureg es dis os) s k = RK T os s.e s.m s.n (.chku es dis s.m k) := X_ureg
theorem XK_preg {j f : Nat} {args : List O} {dis : List (Nat × Nat)} (h : Fn T f (evOs s.e args) (frz s.m) s.n (fun r _ n' => (r.flat = true ∨ n' = s.n) ∧ XK T (.dreg dis (setOp os j (.mv (.c r)))) s k)) : XK T (.preg j f args dis os) s k := X_preg h
theorem XK_pureg {j f : Nat} {args : List O} {es : List Nat} {dis : List (Nat × Nat)} (h : RK T (os.take j) s.e s.m s.n (.top fun _ s1 => safeOk s.m s1.e (usesOs args) = true ∧ Fn T f (evOs s1.e args) (frz s.m) s.n (fun r _ _ => r.flat = true ∧ XK T (.ureg es dis (setOp os j (.pre r args))) s k))) : XK T (.pureg j f args es dis os) s k := X_pureg h
theorem XK_loop : XK T (.loop b) s k = XK T b s (.lp b k) := X_loopE
theorem KN_seq : KN T (.seq b k) s = XK T b s k := rfl
theorem KN_blk : KN T (.blk id k) s = KN T k s := rfl
theorem KN_lp : KN T (.lp b k) s = XK T (.loop b) s k := rfl
theorem KN_chk {dis : List (Nat × Nat)} : KN T (.chk dis k) s = (disOk s.e dis = true ∧ KN T k s) := rfl
theorem KN_chku {es : List Nat} {dis : List (Nat × Nat)} : KN T (.chku es dis m k) s = ((disOk s.e dis = true ∧ safeOk m s.e es = true) ∧ KN T k s) := rfl
theorem KN_top {Q : Ex → St → Prop} : KN T (.top Q) s = Q .n s := rfl
theorem KN_fin {rs : List SRes} {Q : Reg → Mem → Nat → Prop} : KN T (.fin rs Q) s = ∃ regs, evRes s rs = some regs ∧ Q (pack regs) s.m s.n := rfl
theorem KX_seq : KX T (.seq b k) id s = KX T k id s := rfl
theorem KX_lp : KX T (.lp b k) id s = KX T k id s := rfl
theorem KX_blk : KX T (.blk j k) id s = if id = j then KN T k s else KX T k id s := rfl
theorem KX_chk {dis : List (Nat × Nat)} : KX T (.chk dis k) id s = KX T k id s := rfl
theorem KX_top {Q : Ex → St → Prop} : KX T (.top Q) id s = Q (.x id) s := rfl
theorem KR_seq : KR T (.seq b k) s = KR T k s := rfl
theorem KR_blk : KR T (.blk id k) s = KR T k s := rfl
theorem KR_lp : KR T (.lp b k) s = KR T k s := rfl
theorem KR_chk {dis : List (Nat × Nat)} : KR T (.chk dis k) s = KR T k s := rfl
theorem KR_top {Q : Ex → St → Prop} : KR T (.top Q) s = Q .r s := rfl
theorem KR_fin {rs : List SRes} {Q : Reg → Mem → Nat → Prop} : KR T (.fin rs Q) s = ∃ regs, evRes s rs = some regs ∧ Q (pack regs) s.m s.n := rfl
theorem FK_true : FK T (RB true) a b s k = XK T a s k := by simp [FK, condK_bool]
theorem FK_false : FK T (RB false) a b s k = XK T b s k := by simp [FK, condK_bool]
theorem RK_nil : RK T [] e m n k = KN T k ⟨e, m, n⟩ := R_nil
theorem RK_op (h : plainOp op = true) : RK T (⟨d, op, none⟩ :: os) e m n k = ThenK T d os e k (evalOp noCall e m n op) := by
  have hc : isCall op = false := by cases op <;> simp_all [plainOp, isCall]
  unfold RK
  rw [R_op hc]
  cases evalOp noCall e m n op with
  | none => rfl
  | some x => rfl
theorem RK_mv {x : O} : RK T (⟨d, .mv x, none⟩ :: os) e m n k = ThenK T d os e k (evalOp noCall e m n (.mv x)) := RK_op rfl
theorem RK_pick {x : O} {y : O} {z : O} : RK T (⟨d, .pick x y z, none⟩ :: os) e m n k = ThenK T d os e k (evalOp noCall e m n (.pick x y z)) := RK_op rfl
theorem RK_alloc {zz : List Cell} : RK T (⟨d, .alloc zz, none⟩ :: os) e m n k = ThenK T d os e k (evalOp noCall e m n (.alloc zz)) := RK_op rfl
theorem RK_box {x : O} : RK T (⟨d, .box x, none⟩ :: os) e m n k = ThenK T d os e k (evalOp noCall e m n (.box x)) := RK_op rfl
theorem RK_build {zz : List Cell} {ps : List (Nat × Nat × O)} : RK T (⟨d, .build zz ps, none⟩ :: os) e m n k = ThenK T d os e k (evalOp noCall e m n (.build zz ps)) := RK_op rfl
theorem RK_bslice {zz : List Cell} {k1 : Nat} {k2 : Nat} {ps : List (Nat × Nat × O)} : RK T (⟨d, .bslice zz k1 k2 ps, none⟩ :: os) e m n k = ThenK T d os e k (evalOp noCall e m n (.bslice zz k1 k2 ps)) := RK_op rfl
theorem RK_load1 {x : O} : RK T (⟨d, .load1 x, none⟩ :: os) e m n k = ThenK T d os e k (evalOp noCall e m n (.load1 x)) := RK_op rfl
theorem RK_loadA {k1 : Nat} {x : O} : RK T (⟨d, .loadA k1 x, none⟩ :: os) e m n k = ThenK T d os e k (evalOp noCall e m n (.loadA k1 x)) := RK_op rfl
theorem RK_store {k1 : Nat} {x : O} {y : O} : RK T (⟨d, .store k1 x y, none⟩ :: os) e m n k = ThenK T d os e k (evalOp noCall e m n (.store k1 x y)) := RK_op rfl
theorem RK_nilchk {x : O} : RK T (⟨d, .nilchk x, none⟩ :: os) e m n k = ThenK T d os e k (evalOp noCall e m n (.nilchk x)) := RK_op rfl
theorem RK_bin {bo : BinOp} {x : O} {y : O} : RK T (⟨d, .bin bo x y, none⟩ :: os) e m n k = ThenK T d os e k (evalOp noCall e m n (.bin bo x y)) := RK_op rfl
theorem RK_beq {bb : Bool} {x : O} {y : O} : RK T (⟨d, .beq bb x y, none⟩ :: os) e m n k = ThenK T d os e k (evalOp noCall e m n (.beq bb x y)) := RK_op rfl
theorem RK_eqv {ks : List Sk} {bb : Bool} {x : O} {y : O} : RK T (⟨d, .eqv ks bb x y, none⟩ :: os) e m n k = ThenK T d os e k (evalOp noCall e m n (.eqv ks bb x y)) := RK_op rfl
theorem RK_eqnil {k1 : Nat} {bb : Bool} {x : O} : RK T (⟨d, .eqnil k1 bb x, none⟩ :: os) e m n k = ThenK T d os e k (evalOp noCall e m n (.eqnil k1 bb x)) := RK_op rfl
theorem RK_un {uo : UnOp} {x : O} : RK T (⟨d, .un uo x, none⟩ :: os) e m n k = ThenK T d os e k (evalOp noCall e m n (.un uo x)) := RK_op rfl
theorem RK_conv {ik : IntKind} {x : O} : RK T (⟨d, .conv ik x, none⟩ :: os) e m n k = ThenK T d os e k (evalOp noCall e m n (.conv ik x)) := RK_op rfl
theorem RK_mkfn {k1 : Nat} {xs : List O} : RK T (⟨d, .mkfn k1 xs, none⟩ :: os) e m n k = ThenK T d os e k (evalOp noCall e m n (.mkfn k1 xs)) := RK_op rfl
theorem RK_mkslice {zz : List Cell} {k1 : Nat} {k2 : Nat} {x : O} {y : O} : RK T (⟨d, .mkslice zz k1 k2 x y, none⟩ :: os) e m n k = ThenK T d os e k (evalOp noCall e m n (.mkslice zz k1 k2 x y)) := RK_op rfl
theorem RK_pre {r : Reg} {xs : List O} : RK T (⟨d, .pre r xs, none⟩ :: os) e m n k = ThenK T d os e k (evalOp noCall e m n (.pre r xs)) := RK_op rfl
theorem RK_appz {zz : List Cell} {k1 : Nat} {k2 : Nat} {x : O} {y : O} : RK T (⟨d, .appz zz k1 k2 x y, none⟩ :: os) e m n k = ThenK T d os e k (evalOp noCall e m n (.appz zz k1 k2 x y)) := RK_op rfl
theorem RK_slS {k1 : Nat} {x : O} {l1 : Option O} {l2 : Option O} {l3 : Option O} : RK T (⟨d, .slS k1 x l1 l2 l3, none⟩ :: os) e m n k = ThenK T d os e k (evalOp noCall e m n (.slS k1 x l1 l2 l3)) := RK_op rfl
theorem RK_slA {k1 : Nat} {k2 : Nat} {x : O} {l1 : Option O} {l2 : Option O} {l3 : Option O} : RK T (⟨d, .slA k1 k2 x l1 l2 l3, none⟩ :: os) e m n k = ThenK T d os e k (evalOp noCall e m n (.slA k1 k2 x l1 l2 l3)) := RK_op rfl
theorem RK_fadr {k1 : Nat} {x : O} : RK T (⟨d, .fadr k1 x, none⟩ :: os) e m n k = ThenK T d os e k (evalOp noCall e m n (.fadr k1 x)) := RK_op rfl
theorem RK_fld {k1 : Nat} {k2 : Nat} {bb : Bool} {x : O} : RK T (⟨d, .fld k1 k2 bb x, none⟩ :: os) e m n k = ThenK T d os e k (evalOp noCall e m n (.fld k1 k2 bb x)) := RK_op rfl
theorem RK_iadrA {k1 : Nat} {k2 : Nat} {x : O} {y : O} : RK T (⟨d, .iadrA k1 k2 x y, none⟩ :: os) e m n k = ThenK T d os e k (evalOp noCall e m n (.iadrA k1 k2 x y)) := RK_op rfl
theorem RK_iadrS {k1 : Nat} {x : O} {y : O} : RK T (⟨d, .iadrS k1 x y, none⟩ :: os) e m n k = ThenK T d os e k (evalOp noCall e m n (.iadrS k1 x y)) := RK_op rfl
theorem RK_istr {l : List Nat} {x : O} : RK T (⟨d, .istr l x, none⟩ :: os) e m n k = ThenK T d os e k (evalOp noCall e m n (.istr l x)) := RK_op rfl
theorem RK_idxA {k1 : Nat} {k2 : Nat} {bb : Bool} {x : O} {y : O} : RK T (⟨d, .idxA k1 k2 bb x y, none⟩ :: os) e m n k = ThenK T d os e k (evalOp noCall e m n (.idxA k1 k2 bb x y)) := RK_op rfl
theorem RK_ext {x : O} {k1 : Nat} : RK T (⟨d, .ext x k1, none⟩ :: os) e m n k = ThenK T d os e k (evalOp noCall e m n (.ext x k1)) := RK_op rfl
theorem RK_lenC {k1 : Nat} : RK T (⟨d, .lenC k1, none⟩ :: os) e m n k = ThenK T d os e k (evalOp noCall e m n (.lenC k1)) := RK_op rfl
theorem RK_cap {x : O} : RK T (⟨d, .cap x, none⟩ :: os) e m n k = ThenK T d os e k (evalOp noCall e m n (.cap x)) := RK_op rfl
theorem RK_app {k1 : Nat} {k2 : Nat} {x : O} {y : O} : RK T (⟨d, .app k1 k2 x y, none⟩ :: os) e m n k = ThenK T d os e k (evalOp noCall e m n (.app k1 k2 x y)) := RK_op rfl
theorem RK_cpy {k1 : Nat} {x : O} {y : O} : RK T (⟨d, .cpy k1 x y, none⟩ :: os) e m n k = ThenK T d os e k (evalOp noCall e m n (.cpy k1 x y)) := RK_op rfl
theorem RK_mn {xs : List O} : RK T (⟨d, .mn xs, none⟩ :: os) e m n k = ThenK T d os e k (evalOp noCall e m n (.mn xs)) := RK_op rfl
theorem RK_mx {xs : List O} : RK T (⟨d, .mx xs, none⟩ :: os) e m n k = ThenK T d os e k (evalOp noCall e m n (.mx xs)) := RK_op rfl
theorem RK_carry {bb : Bool} {xs : List O} : RK T (⟨d, .carry bb xs, none⟩ :: os) e m n k = ThenK T d os e k (evalOp noCall e m n (.carry bb xs)) := RK_op rfl
theorem RK_clr {zz : List Cell} {k1 : Nat} {x : O} : RK T (⟨d, .clr zz k1 x, none⟩ :: os) e m n k = ThenK T d os e k (evalOp noCall e m n (.clr zz k1 x)) := RK_op rfl
theorem RK_len {x : O} : RK T (⟨d, .len x, none⟩ :: os) e m n k = ThenK T d os e k ((lenO (evO e x)).map fun l => (RI l, m, n)) := by
  unfold RK
  rw [R_len]
  cases lenO (evO e x) with
  | none => rfl
  | some x => rfl
theorem ThenK_some {r : Reg} : ThenK T d os e k (some (r, m, n)) = RK T os (putE e d r) m n k := rfl
theorem RK_guard {t : Nat} {w : Bool} : RK T (⟨d, op, some (some t, w)⟩ :: os) e m n k = GK T (boolOf (e t)) w d op os e m n k := R_guard
theorem GK_tt : GK T (some true) true d op os e m n k = RK T (⟨d, op, none⟩ :: os) e m n k := by simp [GK]
theorem GK_ff : GK T (some false) false d op os e m n k = RK T (⟨d, op, none⟩ :: os) e m n k := by simp [GK]
theorem GK_tf : GK T (some true) false d op os e m n k = RK T os (putE e d (.tup [])) m n k := by simp [GK]
theorem GK_ft : GK T (some false) true d op os e m n k = RK T os (putE e d (.tup [])) m n k := by simp [GK]
theorem GK_none {w : Bool} : GK T none w d op os e m n k = RK T os (putE e d (.tup [])) m n k := by simp [GK]
theorem QK_some {r : Reg} : QK T d os e m n k (some r) = (r.flat = true ∧ RK T os (putE e d r) m n k) := rfl
theorem RK_callQ {f : Nat} {xs : List O} : RK T (⟨d, .call .q f xs, none⟩ :: os) e m n k = QK T d os e m n k (callF T f (evOs e xs) (frz m) n) := by
  unfold RK
  rw [R_call]
  simp only [doCall, callF]
  cases callR T f (evOs e xs) (frz m) n with
  | none => rfl
  | some x =>
    obtain ⟨r, m', n'⟩ := x
    simp only [Option.map_some, QK]
    split
    · rename_i h; simp [Then, h, RK]
    · rename_i h; simp [Then, h]
theorem RK_callZ {g f : Nat} {xs : List O} : RK T (⟨d, .call (.z g) f xs, none⟩ :: os) e m n k = (flats (evOs e xs) = true ∧ QK T d os e m n k (callF T f (evOs e xs) (fun _ => none) g)) := by
  unfold RK
  rw [R_call]
  simp only [doCall, callF]
  by_cases hf : flats (evOs e xs) = true
  · rw [if_pos hf]
    cases callR T f (evOs e xs) (fun _ => none) g with
    | none => simp [Then, QK]
    | some x =>
      obtain ⟨r, m', n'⟩ := x
      simp only [Option.map_some, QK, hf, true_and]
      split
      · rename_i h; simp [Then, h, RK]
      · rename_i h; simp [Then, h]
  · rw [if_neg hf]
    simp [Then, hf]
theorem TK_some {f : Nat} {as_ : List Reg} {b : Blk} : TKd T d f as_ os e m n k (some b) = ((flats as_ = true ∧ b.cells.all Cell.flat = true) ∧ QK T d os e m n k (callF T f as_ (tabM b.cells) 1)) := rfl
theorem RK_callT {f : Nat} {xs : List O} : RK T (⟨d, .call .t f xs, none⟩ :: os) e m n k = TKd T d f (evOs e xs) os e m n k (m 0) := by
  unfold RK
  rw [R_call]
  simp only [doCall, callF]
  cases hb : m 0 with
  | none => simp [Then, TKd]
  | some b =>
    simp only [TKd, callF]
    by_cases hf : flats (evOs e xs) = true ∧ b.cells.all Cell.flat = true
    · rw [if_pos hf]
      cases callR T f (evOs e xs) (tabM b.cells) 1 with
      | none => simp [Then, QK]
      | some x =>
        obtain ⟨r, m', n'⟩ := x
        simp only [Option.map_some, QK, hf.1, hf.2, and_self, true_and]
        split
        · rename_i h; simp [Then, h, RK]
        · rename_i h; simp [Then, h]
    · rw [if_neg hf]
      simp only [Then, eq_false hf, false_and]
theorem VK_clo {md : Mode} {as_ : List Reg} {f : Nat} {caps : List Cell} : VK T d md as_ os e m n k (.one (.clo f caps)) = RK T (⟨d, .call md f ((as_ ++ caps.map Reg.one).map O.c), none⟩ :: os) e m n k := rfl
theorem RK_callV {md : Mode} {x : O} {xs : List O} : RK T (⟨d, .callv md x xs, none⟩ :: os) e m n k = VK T d md (evOs e xs) os e m n k (evO e x) := by
  unfold VK
  split
  · rename_i f caps hx
    unfold RK
    apply propext
    constructor
    · rintro ⟨k, e', m', n', h1, h2⟩
      refine ⟨k, e', m', n', ?_, h2⟩
      simp only [evalOps, wantedS, evalOp, evOs_c] at h1 ⊢
      rw [hx] at h1
      exact h1
    · exact fun h => R_callv hx h
  · rename_i hx
    apply propext
    constructor
    · rintro ⟨k, e', m', n', h1, h2⟩
      simp only [evalOps, wantedS, evalOp] at h1
      cases h1
    · exact fun h => h.elim
theorem RK_callk {f : Nat} {xs : List O} (h : Fn T f (evOs e xs) (frz m) n (fun r m' n' => RK T os (putE e d r) (unfrz m n m') (max n n') k)) : RK T (⟨d, .call .k f xs, none⟩ :: os) e m n k := R_callk h
theorem RK_callw {f : Nat} {xs : List O} (h : Fn T f (evOs e xs) m n (fun r m' n' => RK T os (putE e d r) m' n' k)) : RK T (⟨d, .call .w f xs, none⟩ :: os) e m n k := R_callw h
theorem RK_callq {f : Nat} {xs : List O} (h : Fn T f (evOs e xs) (frz m) n (fun r _ _ => r.flat = true ∧ RK T os (putE e d r) m n k)) : RK T (⟨d, .call .q f xs, none⟩ :: os) e m n k := R_callq h
theorem RK_callz {g f : Nat} {xs : List O} (hf : flats (evOs e xs) = true) (h : Fn T f (evOs e xs) (fun _ => none) g (fun r _ _ => r.flat = true ∧ RK T os (putE e d r) m n k)) : RK T (⟨d, .call (.z g) f xs, none⟩ :: os) e m n k := R_callz hf h
theorem Fn_ofK {f : Nat} {fn : SFun} {a : List Reg} {m : Mem} {n : Nat} {Q : Reg → Mem → Nat → Prop} (hT : T f = some fn) (hl : a.length ≤ fn.nt)
    (h : XK T fn.body ⟨fun t => a.getD t (.tup []), m, n⟩ (.fin fn.res Q)) (hn : fn.nat = none := by rfl) : Fn T f a m n Q := Fn_of hT hl h hn

/-- A loop of a known number of rounds. -/
theorem XK_iter {T : Nat → Option SFun} {b : SC} {k : Kt} (inv : Nat → St → Prop) (N : Nat)
    (h : ∀ B, B = b → (∀ i, i < N → ∀ s, inv i s → (∀ s', inv (i + 1) s' → XK T (.loop B) s' k) → XK T b s (.lp B k)) ∧ (∀ s, inv N s → XK T b s (.lp B k))) :
    ∀ i, i ≤ N → ∀ s, inv i s → XK T (.loop b) s k := by
  obtain ⟨h1, h2⟩ := h b rfl
  intro i hi
  obtain ⟨d, hd⟩ : ∃ d, d = N - i := ⟨_, rfl⟩
  induction d generalizing i with
  | zero =>
    intro s hs
    have : i = N := by omega
    subst this
    rw [XK_loop]
    exact h2 s hs
  | succ d ih =>
    intro s hs
    rw [XK_loop]
    exact h1 i (by omega) s hs (fun s' hs' => ih (i + 1) (by omega) (by omega) s' hs')

/-- A loop whose measure goes down. -/
theorem XK_down {T : Nat → Option SFun} {b : SC} {k : Kt} (inv : Nat → St → Prop)
    (h : ∀ B, B = b → ∀ d s, inv d s → (∀ d' s', d' < d → inv d' s' → XK T (.loop B) s' k) → XK T b s (.lp B k)) : ∀ d s, inv d s → XK T (.loop b) s k := by
  intro d
  induction d using Nat.strongRecOn with
  | _ d ih =>
    intro s hs
    rw [XK_loop]
    exact h b rfl d s hs (fun d' s' hd hs' => ih d' hd s' hs')

/-! forks -/
theorem FK_split {t : Bool} (h1 : t = true → XK T a s k) (h2 : t = false → XK T b s k) : FK T (RB t) a b s k := by
  cases t
  · rw [FK_false]; exact h2 rfl
  · rw [FK_true]; exact h1 rfl
theorem GK_split {t w : Bool} (h1 : t = w → RK T (⟨d, op, none⟩ :: os) e m n k) (h2 : t = !w → RK T os (putE e d (.tup [])) m n k) : GK T (some t) w d op os e m n k := by
  unfold GK
  by_cases h : t = w
  · rw [if_pos (by rw [h])]; exact h1 h
  · rw [if_neg (fun e => h (Option.some.inj e))]
    exact h2 (by cases t <;> cases w <;> simp_all)
end

theorem rd_of {m : Mem} {id off k : Nat} {b : Blk} (h : m id = some b) : rd m id off k = rdB b off k := by unfold rd rdB; rw [h]
theorem rd_updn {m : Mem} {k id off j : Nat} : rd (upd m k none) id off j = if id = k then none else rd m id off j := by
  unfold rd
  by_cases h : id = k
  · subst h; rw [upd_same, if_pos rfl]
  · rw [upd_ne _ _ h, if_neg h]
theorem frz_at {m : Mem} {id : Nat} : frz m id = (m id).map fun b => ⟨b.cells, false⟩ := rfl
theorem ite_both {c : Prop} [Decidable c] {p q : Prop} (h1 : c → p) (h2 : ¬ c → q) : if c then p else q := by
  by_cases h : c
  · rw [if_pos h]; exact h1 h
  · rw [if_neg h]; exact h2 h

theorem mem_frz {m : Mem} {id : Nat} {b : Blk} (h : m id = some b) : frz m id = some ⟨b.cells, false⟩ := by unfold frz; rw [h]; rfl
theorem Cell.flat_sc {v : Value} : Cell.flat (.sc v) = true := rfl
theorem Cell.flat_ptr {a b : Nat} : Cell.flat (.ptr a b) = false := rfl
theorem Reg.flat_one {c : Cell} : Reg.flat (.one c) = c.flat := rfl
theorem Reg.flat_agg {cs : List Cell} : Reg.flat (.agg cs) = cs.all Cell.flat := rfl
theorem Reg.flat_tup {rs : List Reg} : Reg.flat (.tup rs) = flats rs := rfl
theorem flats_nil : flats [] = true := rfl
theorem flats_cons {r : Reg} {rs : List Reg} : flats (r :: rs) = (r.flat && flats rs) := rfl
theorem callF_closed {T : Nat → Option SFun} {k f : Nat} {a : List Reg} {m : Mem} {n : Nat} {r : Reg} (h : (run T k f a m n).map (·.1) = some r) : callF T f a m n = some r := by
  obtain ⟨x, h1, h2⟩ := Option.map_eq_some_iff.1 h
  unfold callF
  rw [callR_of h1]
  exact congrArg some h2

theorem um0 {a : Int} : (0 ≤ a % 18446744073709551616) = True := eq_true (Int.emod_nonneg _ (by decide))
theorem um1 {a : Int} : (a % 18446744073709551616 < 18446744073709551616) = True := eq_true (Int.emod_lt_of_pos _ (by decide))
/-! ### the numbers of blocks -/
section
variable {n k id a b : Nat}
theorem nadd : n + k + 1 = n + (k + 1) := Nat.add_assoc _ _ _
theorem na_eq : (n = n + k) = (k = 0) := by apply propext; omega
theorem na_eq' : (n + k = n) = (k = 0) := by apply propext; omega
theorem na_lt : (n < n + k) = (0 < k) := by apply propext; omega
theorem na_ee : (n + a = n + b) = (a = b) := by apply propext; omega
theorem na_ll : (n + a < n + b) = (a < b) := by apply propext; omega
theorem na_ne (h : id < n) : (id = n + k) = False := eq_false (by omega)
theorem na_ne' (h : id < n) : (n + k = id) = False := eq_false (by omega)
theorem na_tt (h : id < n) : (id < n + k) = True := eq_true (by omega)
theorem na_0 (h : id < n) : (id = n) = False := eq_false (by omega)
theorem na_0' (h : id < n) : (n = id) = False := eq_false (by omega)
end
end Go.Proofs.Ytkdbnmohpanpfaa.Sy

/- An evaluator of a part of Go's operations over a memory of its own, part eighteen: numbers of all kinds. Conditions: those that each theorem names. -/
namespace Go.Proofs.Ytkdbnmohpanpfaa.Sy
open Go
set_option linter.unusedVariables false
set_option linter.unusedSimpArgs false

abbrev U (n : Int) : Cell := .sc (.int .u64 n)
abbrev RU (n : Int) : Reg := .one (.sc (.int .u64 n))

section
variable {k k' : IntKind} {a b : Int}
theorem bV_add : binV .add (.int k a) (.int k b) = some (.int k (k.wrap (a + b))) := by simp [binV]
theorem bV_sub : binV .sub (.int k a) (.int k b) = some (.int k (k.wrap (a - b))) := by simp [binV]
theorem bV_mul : binV .mul (.int k a) (.int k b) = some (.int k (k.wrap (a * b))) := by simp [binV]
theorem bV_eql : binV .eql (.int k a) (.int k b) = some (.bool (decide (a = b))) := by
  simp only [binV, if_true, Option.some.injEq, Value.bool.injEq]
  by_cases h : a = b <;> simp [h]
theorem bV_neq : binV .neq (.int k a) (.int k b) = some (.bool (!decide (a = b))) := by
  simp only [binV, if_true, Option.some.injEq, Value.bool.injEq]
  by_cases h : a = b <;> simp [h]
theorem bV_lss : binV .lss (.int k a) (.int k b) = some (.bool (decide (a < b))) := by simp [binV]
theorem bV_leq : binV .leq (.int k a) (.int k b) = some (.bool (decide (a ≤ b))) := by simp [binV]
theorem bV_gtr : binV .gtr (.int k a) (.int k b) = some (.bool (decide (b < a))) := by simp [binV]
theorem bV_geq : binV .geq (.int k a) (.int k b) = some (.bool (decide (b ≤ a))) := by simp [binV]
theorem bV_quo (h : (b = 0) = False) : binV .quo (.int k a) (.int k b) = some (.int k (k.wrap (a.tdiv b))) := by simp [binV, h]
theorem bV_rem (h : (b = 0) = False) : binV .rem (.int k a) (.int k b) = some (.int k (a.tmod b)) := by simp [binV, h]
theorem bV_shr (h : 0 ≤ b) : binV .shr (.int k a) (.int k' b) = some (.int k (a / 2 ^ min b.toNat k.bits)) := by
  have : ¬ b < 0 := by omega
  simp only [binV, this, if_false]
  rw [Int.fdiv_eq_ediv_of_nonneg _ (Int.le_of_lt (Int.pow_pos (by decide)))]
theorem bV_shl (h : 0 ≤ b) : binV .shl (.int k a) (.int k' b) = some (.int k (k.wrap (a * 2 ^ min b.toNat k.bits))) := by
  have : ¬ b < 0 := by omega
  simp only [binV, this, if_false]
theorem uV_not {t : Bool} : unV .not (.bool t) = some (.bool !t) := rfl
theorem uV_neg : unV .neg (.int k a) = some (.int k (k.wrap (0 - a))) := rfl
end

theorem wrapU (n : Int) : IntKind.u64.wrap n = n % 18446744073709551616 := IntKind.wrap_u64 n
theorem wrapI (n : Int) : IntKind.i64.wrap n = Go.RowKit.wrap64 n := by
  simp [IntKind.wrap, IntKind.bits, IntKind.signed, Go.RowKit.wrap64]
  omega

theorem bits_and {k : IntKind} {a b : Int} : binV .and (.int k a) (.int k b) = some (.int k (Go.bits .and k a b)) := by
  simp [binV, Go.bits]
theorem bits_or {k : IntKind} {a b : Int} : binV .or (.int k a) (.int k b) = some (.int k (Go.bits .or k a b)) := by
  simp [binV, Go.bits]
theorem bits_xor {k : IntKind} {a b : Int} : binV .xor (.int k a) (.int k b) = some (.int k (Go.bits .xor k a b)) := by
  simp [binV, Go.bits]

def mnI (a b : Int) : Int := if b < a then b else a
def mxI (a b : Int) : Int := if a < b then b else a
theorem minI_two {kd : IntKind} (a b : Int) : minI a [.one (.sc (.int kd b))] = some (mnI a b) := by simp [minI, mnI]
theorem maxI_two {kd : IntKind} (a b : Int) : maxI a [.one (.sc (.int kd b))] = some (mxI a b) := by simp [maxI, mxI]
theorem maxI_three {kd kd' : IntKind} (a b c : Int) : maxI a [.one (.sc (.int kd b)), .one (.sc (.int kd' c))] = some (mxI (mxI a b) c) := rfl
end Go.Proofs.Ytkdbnmohpanpfaa.Sy

/- Plain numbers of 128 bits: products, parts, signs. Conditions: those that each theorem names. -/
namespace Go.Proofs.Ytkdbnmohpanpfaa.Sy
open Go Go.RowKit

/-- The sign. -/
def sgn (x : Int) : Int := if 0 < x then 1 else if x < 0 then -1 else 0
theorem sgn_pos {x : Int} (h : 0 < x) : sgn x = 1 := if_pos h
theorem sgn_neg {x : Int} (h : x < 0) : sgn x = -1 := by unfold sgn; rw [if_neg (by omega), if_pos h]
theorem sgn_zero : sgn 0 = 0 := rfl
theorem sgn_eq_one {x : Int} : sgn x = 1 ↔ 0 < x := by unfold sgn; split <;> (try split) <;> omega
theorem sgn_eq_neg {x : Int} : sgn x = -1 ↔ x < 0 := by unfold sgn; split <;> (try split) <;> omega
theorem sgn_eq_zero {x : Int} : sgn x = 0 ↔ x = 0 := by unfold sgn; split <;> (try split) <;> omega
theorem sgn_neg' (x : Int) : sgn (-x) = -sgn x := by unfold sgn; split <;> split <;> (try split) <;> omega
theorem sgn_bd (x : Int) : -1 ≤ sgn x ∧ sgn x ≤ 1 := by unfold sgn; split <;> (try split) <;> omega
theorem w64 {n : Int} (h : -9223372036854775808 ≤ n ∧ n ≤ 9223372036854775807) : wrap64 n = n := by unfold wrap64; omega
theorem w64' {n : Int} (h1 : -9223372036854775808 ≤ n) (h2 : n ≤ 9223372036854775807) : wrap64 n = n := by unfold wrap64; omega
theorem wu64 (n : Int) : IntKind.u64.wrap n = n % 18446744073709551616 := IntKind.wrap_u64 n

/-- A product's parts. -/
theorem mul64_int (x y : Int) (hx0 : 0 ≤ x) (hx : x < 18446744073709551616) (hy0 : 0 ≤ y) (hy : y < 18446744073709551616) :
    IntKind.u64.wrap ((IntKind.u64.wrap ((IntKind.u64.wrap ((x / 4294967296) * (y / 4294967296))) + ((IntKind.u64.wrap ((IntKind.u64.wrap ((x / 4294967296) * (Go.bits .and .u64 y 4294967295))) + ((IntKind.u64.wrap ((Go.bits .and .u64 x 4294967295) * (Go.bits .and .u64 y 4294967295))) / 4294967296))) / 4294967296))) + ((IntKind.u64.wrap ((Go.bits .and .u64 (IntKind.u64.wrap ((IntKind.u64.wrap ((x / 4294967296) * (Go.bits .and .u64 y 4294967295))) + ((IntKind.u64.wrap ((Go.bits .and .u64 x 4294967295) * (Go.bits .and .u64 y 4294967295))) / 4294967296))) 4294967295) + (IntKind.u64.wrap ((Go.bits .and .u64 x 4294967295) * (y / 4294967296))))) / 4294967296)) = x * y / 18446744073709551616 := by
  obtain ⟨a, rfl⟩ := Int.eq_ofNat_of_zero_le hx0
  obtain ⟨b, rfl⟩ := Int.eq_ofNat_of_zero_le hy0
  have ha : a < 18446744073709551616 := by omega
  have hb : b < 18446744073709551616 := by omega
  obtain ⟨h1, h2, h3, h4⟩ := Lib.mul64_hi a b ha hb
  rw [and_low32 _ (by omega) (by omega), and_low32 _ (by omega) (by omega)]
  have e1 : ((a : Int) / 4294967296) = ((a / 4294967296 : Nat) : Int) := by omega
  have e2 : ((b : Int) / 4294967296) = ((b / 4294967296 : Nat) : Int) := by omega
  have e3 : ((a : Int) % 4294967296) = ((a % 4294967296 : Nat) : Int) := by omega
  have e4 : ((b : Int) % 4294967296) = ((b % 4294967296 : Nat) : Int) := by omega
  rw [e1, e2, e3, e4]
  have q1 := Lib.half_mul_le (a := a / 4294967296) (b := b / 4294967296) (by omega) (by omega)
  have q2 := Lib.half_mul_le (a := a / 4294967296) (b := b % 4294967296) (by omega) (by omega)
  have q3 := Lib.half_mul_le (a := a % 4294967296) (b := b / 4294967296) (by omega) (by omega)
  have q4 := Lib.half_mul_le (a := a % 4294967296) (b := b % 4294967296) (by omega) (by omega)
  have hm : ((a : Int) * (b : Int)) / 18446744073709551616 = ((a * b / 18446744073709551616 : Nat) : Int) := by
    rw [Int.natCast_ediv, Int.natCast_mul]
    rfl
  rw [hm, ← h4]
  simp only [← Int.natCast_mul]
  generalize (a / 4294967296) * (b / 4294967296) = p at *
  generalize (a / 4294967296) * (b % 4294967296) = q at *
  generalize (a % 4294967296) * (b / 4294967296) = r at *
  generalize (a % 4294967296) * (b % 4294967296) = s at *
  have w1 : IntKind.u64.wrap (s : Int) = (s : Int) := by rw [wu64]; omega
  have w2 : IntKind.u64.wrap (q : Int) = (q : Int) := by rw [wu64]; omega
  have w3 : IntKind.u64.wrap (p : Int) = (p : Int) := by rw [wu64]; omega
  have w4 : IntKind.u64.wrap (r : Int) = (r : Int) := by rw [wu64]; omega
  rw [w1, w2, w3, w4]
  have w5 : IntKind.u64.wrap ((q : Int) + (s : Int) / 4294967296) = ((q + s / 4294967296 : Nat) : Int) := by rw [wu64]; omega
  rw [w5]
  rw [and_low32 _ (by omega) (by omega)]
  simp only [wu64]
  omega

/-- A number of 128 bits, told by its parts. -/
theorem parts_hi {p : Int} {hi lo : Int} (h : p = hi * 18446744073709551616 + lo) (h0 : 0 ≤ lo) (h1 : lo < 18446744073709551616) : p / 18446744073709551616 = hi ∧ p % 18446744073709551616 = lo := by omega

theorem mul_bd {a b : Int} (ha : -9223372036854775808 ≤ a) (ha' : a ≤ 9223372036854775807) (hb : -9223372036854775808 ≤ b) (hb' : b ≤ 9223372036854775807) :
    -85070591730234615856620279821087277056 ≤ a * b ∧ a * b ≤ 85070591730234615865843651857942052864 := by
  have key : ∀ x y : Int, 0 ≤ x → x ≤ 9223372036854775808 → 0 ≤ y → y ≤ 9223372036854775808 → 0 ≤ x * y ∧ x * y ≤ 85070591730234615865843651857942052864 := by
    intro x y h1 h2 h3 h4
    exact ⟨Int.mul_nonneg h1 h3, Int.le_trans (Int.mul_le_mul_of_nonneg_right h2 h3) (by omega)⟩
  have key2 : ∀ x y : Int, 0 ≤ x → x ≤ 9223372036854775807 → 0 ≤ y → y ≤ 9223372036854775808 → 0 ≤ x * y ∧ x * y ≤ 85070591730234615856620279821087277056 := by
    intro x y h1 h2 h3 h4
    exact ⟨Int.mul_nonneg h1 h3, Int.le_trans (Int.mul_le_mul_of_nonneg_right h2 h3) (by omega)⟩
  rcases Int.le_total 0 a with h | h <;> rcases Int.le_total 0 b with h' | h'
  · have := key a b h (by omega) h' (by omega); omega
  · have := key2 a (-b) h (by omega) (by omega) (by omega); rw [Int.mul_neg] at this; omega
  · have := key2 b (-a) h' (by omega) (by omega) (by omega); rw [Int.mul_neg, Int.mul_comm] at this; omega
  · have := key (-a) (-b) (by omega) (by omega) (by omega) (by omega); rw [Int.neg_mul_neg] at this; omega

/-- Of two ints as_ unsigned numbers, less what the signs count too much: the product's parts. -/
theorem signed_mul (a b : Int) (ha : -9223372036854775808 ≤ a) (ha' : a ≤ 9223372036854775807) (hb : -9223372036854775808 ≤ b) (hb' : b ≤ 9223372036854775807) :
    wrap64 ((a % 18446744073709551616) * (b % 18446744073709551616) / 18446744073709551616 - (if a < 0 then b % 18446744073709551616 else 0) - (if b < 0 then a % 18446744073709551616 else 0)) = a * b / 18446744073709551616 ∧
      (a % 18446744073709551616) * (b % 18446744073709551616) % 18446744073709551616 = a * b % 18446744073709551616 := by
  have hbd := mul_bd ha ha' hb hb'
  have e1 : a % 18446744073709551616 = if a < 0 then a + 18446744073709551616 else a := by split <;> omega
  have e2 : b % 18446744073709551616 = if b < 0 then b + 18446744073709551616 else b := by split <;> omega
  rw [e1, e2]
  by_cases h1 : a < 0 <;> by_cases h2 : b < 0
  · simp only [if_pos h1, if_pos h2]
    have : (a + 18446744073709551616) * (b + 18446744073709551616) = a * b + 18446744073709551616 * (a + b + 18446744073709551616) := by rw [Int.add_mul, Int.mul_add, Int.mul_add, Int.mul_add, Int.mul_add, Int.mul_comm a 18446744073709551616]; omega
    rw [this]
    generalize a * b = p at *
    unfold wrap64
    omega
  · simp only [if_pos h1, if_neg h2]
    have : (a + 18446744073709551616) * b = a * b + 18446744073709551616 * b := by rw [Int.add_mul]
    rw [this]
    generalize a * b = p at *
    unfold wrap64
    omega
  · simp only [if_neg h1, if_pos h2]
    have : a * (b + 18446744073709551616) = a * b + 18446744073709551616 * a := by rw [Int.mul_add, Int.mul_comm a 18446744073709551616]
    rw [this]
    generalize a * b = p at *
    unfold wrap64
    omega
  · simp only [if_neg h1, if_neg h2]
    generalize a * b = p at *
    unfold wrap64
    exact ⟨by omega, trivial⟩
end Go.Proofs.Ytkdbnmohpanpfaa.Sy

/- Package math/bits walked: how many digits a number has. Conditions: those that each theorem names. -/
namespace Go.Proofs.Ytkdbnmohpanpfaa.Sy
open Go Go.Proofs Go.RowKit
set_option linter.unusedSimpArgs false
set_option linter.unusedVariables false
set_option maxRecDepth 20000
attribute [local go_sem] XK_seq XK_block XK_skip XK_exit XK_ret XK_cond XK_reg XK_dreg XK_ureg KN_seq KN_blk KN_lp KN_chk KN_chku KN_top KN_fin KX_seq KX_lp KX_blk KX_chk KX_top KR_seq KR_blk KR_lp KR_chk KR_top KR_fin FK_true FK_false RK_nil RK_mv RK_pick RK_alloc RK_box RK_build RK_bslice RK_load1 RK_loadA RK_store RK_nilchk RK_bin RK_beq RK_eqv RK_eqnil RK_un RK_conv RK_mkfn RK_mkslice RK_slS RK_slA RK_fadr RK_fld RK_iadrA RK_iadrS RK_idxA RK_istr RK_ext RK_lenC RK_cap RK_app RK_appz RK_pre RK_cpy RK_mn RK_mx RK_len RK_carry RK_clr carryR um0 um1 ThenK_some RK_guard GK_tt GK_ff GK_tf GK_ft GK_none QK_some RK_callQ RK_callZ RK_callT TK_some VK_clo RK_callV
  evalOp evO evOs upd_at unfrz_at putE_some putE_none boolOf_b boolOf_tup Option.map_some evRes pack_one pack_two pack_three pack_none List.getD_cons_zero List.getD_cons_succ getD_nil
  Option.some.injEq exists_eq_left' Reg.cs? fillC setL List.set_cons_zero List.set_cons_succ List.length_cons List.length_nil rd_upd rd_updn rdB wr List.drop_zero List.drop_succ_cons List.take_succ_cons List.take_zero List.getElem?_cons_zero List.getElem?_cons_succ
  ix Int.toNat_zero lenO_sl lenO_nil nadd na_eq na_eq' na_lt na_ee na_ll na_ne na_ne' na_tt
attribute [local go_sem] Reg.flat_one Reg.flat_agg Reg.flat_tup flats_nil flats_cons Cell.flat_sc Cell.flat_ptr List.all_cons List.all_nil disOk safeOk safeR decide_eq_true_eq decide_eq_false_iff_not
  List.map_cons List.map_nil List.cons_append List.nil_append List.append_nil evalOp.capsOf Bool.false_bne Bool.bne_false Bool.true_bne Bool.bne_true bne_self_eq_false beq_self_eq_true Bool.not_not Bool.false_and Bool.and_false Bool.true_or Bool.or_true beq_iff_eq eqCells
  Bool.true_beq Bool.false_beq Bool.not_eq_true' Bool.not_eq_eq_eq_not Bool.not_eq_false' and_false false_and frz_at idOf noId Option.isSome_some Bool.and_eq_true
attribute [local go_sem] wr_eq bV_add bV_sub bV_mul bV_eql bV_neq bV_lss bV_leq bV_gtr bV_geq bV_quo bV_rem bV_shr bV_shl uV_not uV_neg wrapU bits_and bits_or bits_xor IntKind.bits Nat.min_eq_left Nat.min_eq_right Nat.min_self
attribute [local go_sem] bne_iff_ne Int.cast_ofNat_Int Nat.zero_add Nat.add_zero and_self and_true true_and ne_eq not_false_eq_true not_true_eq_false decide_true decide_false Bool.false_eq_true Bool.not_true Bool.not_false Bool.true_and Bool.and_true Bool.or_false Bool.false_or Bool.and_self

/-- The number of digits, told by its bounds. -/
def Pl (x : Int) (r : Nat) : Prop := x < 2 ^ r ∧ 2 ^ r ≤ 2 * x
theorem Pl.shift {x : Int} {r c : Nat} (h : Pl (x / 2 ^ c) r) : Pl x (r + c) := by
  obtain ⟨h1, h2⟩ := h
  have hc : (0 : Int) < 2 ^ c := Int.pow_pos (by decide)
  unfold Pl
  rw [Int.pow_add]
  obtain ⟨C, eC⟩ : ∃ C : Int, C = 2 ^ c := ⟨_, rfl⟩
  obtain ⟨R, eR⟩ : ∃ R : Int, R = 2 ^ r := ⟨_, rfl⟩
  rw [← eC] at h1 h2 hc ⊢
  rw [← eR] at h1 h2 ⊢
  have d1 := Int.mul_ediv_add_emod x C
  have d2 := Int.emod_nonneg x (show C ≠ 0 by omega)
  have d3 := Int.emod_lt_of_pos x hc
  have m1 : C * (x / C) ≤ C * (R - 1) := Int.mul_le_mul_of_nonneg_left (by omega) (by omega)
  rw [Int.mul_sub, Int.mul_one] at m1
  have m2 : C * R ≤ C * (2 * (x / C)) := Int.mul_le_mul_of_nonneg_left (by omega) (by omega)
  rw [Int.mul_left_comm] at m2
  rw [Int.mul_comm R C]
  omega
def tabOk (i : Nat) : Bool := match bytesA[i]? with
  | some b => decide (b ≤ 8) && (decide (i = 0) || (decide (i < 2 ^ b) && decide (2 ^ b ≤ 2 * i)))
  | none => false
theorem tab_all : ∀ i : Fin 256, tabOk i.val = true := by decide +kernel
theorem tab_len {i : Int} (h0 : 0 < i) (h1 : i < 256) : ∃ r : Nat, bytesA[i.toNat]? = some r ∧ r ≤ 8 ∧ Pl i r := by
  obtain ⟨n, rfl⟩ := Int.eq_ofNat_of_zero_le (show 0 ≤ i by omega)
  have h : tabOk n = true := tab_all ⟨n, by omega⟩
  unfold tabOk at h
  split at h
  · rename_i b hb
    simp only [Bool.and_eq_true, Bool.or_eq_true, decide_eq_true_eq] at h
    refine ⟨b, by simpa using hb, h.1, ?_⟩
    obtain ⟨a1, a2⟩ := h.2.resolve_left (by omega)
    constructor
    · exact_mod_cast a1
    · exact_mod_cast a2
  · cases h
theorem u8w {z : Int} (h0 : 0 ≤ z) (h1 : z < 256) : IntKind.u8.wrap z = z := by
  simp [IntKind.wrap, IntKind.bits, IntKind.signed]
  omega
theorem v_Len64 {x : Int} (h0 : 0 < x) (h1 : x < 18446744073709551616) : ∃ r : Nat, r ≤ 64 ∧ Pl x r ∧ callF TA 71 [RU x] (fun _ => none) 0 = some (RI r) := by
  -- the last part: what is below 256
  have last : ∀ (y : Int) (c : Nat) (C : Int), C = c → y = x / 2 ^ c → 0 < y → y < 256 → c ≤ 56 → ∃ r : Nat, c + r ≤ 64 ∧ Pl x (r + c) ∧ IntKind.u8.wrap y = y ∧ (0 ≤ y) ∧ bytesA[y.toNat]? = some r ∧ IntKind.i64.wrap (r : Int) = r ∧ IntKind.i64.wrap (C + r) = ((r + c : Nat) : Int) := by
    intro y c C hC e y0 y1 hc
    obtain ⟨r, e1, e2, e3⟩ := tab_len y0 y1
    refine ⟨r, by omega, ?_, u8w (by omega) y1, by omega, e1, ?_, ?_⟩
    · rw [e] at e3
      exact Pl.shift e3
    · rw [IntKind.wrap_i64]; omega
    · rw [IntKind.wrap_i64]; omega
  by_cases c1 : 4294967296 ≤ x
  · by_cases c2 : 65536 ≤ x / 4294967296
    · by_cases c3 : 256 ≤ x / 4294967296 / 65536
      · obtain ⟨r, q1, q2, q3, q4, q5, q6, q7⟩ := last (x / 4294967296 / 65536 / 256) 56 56 rfl (by show _ = x / 72057594037927936; omega) (by omega) (by omega) (by decide)
        refine ⟨r + 56, by omega, q2, callF_of (Fn_ofK (fn := F71) rfl (by simp [F71]) ?_)⟩
        try simp only [r71_0, r71_1, r71_2, r71_3, r71_4, r71_5, r71_6, r71_7, r71_8, r71_9, r71_10, c71, F71, c1, c2, c3, q3, q4, q5, q6, q7, go_sem, Int.reduceTMod, Int.reduceTDiv, Int.reduceDiv, Int.reduceMod, Int.reduceAdd, Int.reduceSub, Int.reduceMul, Int.reduceNeg, Int.reducePow, Int.reduceEq, ↓reduceIte, Nat.reduceEqDiff, Nat.reduceAdd, Nat.reduceMul, Nat.reduceLeDiff, Nat.reduceSub, Nat.reduceLT, Int.reduceToNat, Int.reduceLT, Int.reduceLE, reduceCtorEq]
        repeat' ((first | refine FK_split (fun h_ => ?_) (fun h_ => ?_) | refine GK_split (fun h_ => ?_) (fun h_ => ?_) | refine ite_both (fun h_ => ?_) (fun h_ => ?_)) <;> (try simp only [decide_eq_true_eq, decide_eq_false_iff_not, Bool.not_true, Bool.not_false, Bool.not_eq_true', Bool.not_eq_false', Bool.not_eq_eq_eq_not, Decidable.not_not] at h_) <;> (try simp only [r71_0, r71_1, r71_2, r71_3, r71_4, r71_5, r71_6, r71_7, r71_8, r71_9, r71_10, c71, F71, c1, c2, c3, q3, q4, q5, q6, q7, h_, go_sem, Int.reduceTMod, Int.reduceTDiv, Int.reduceDiv, Int.reduceMod, Int.reduceAdd, Int.reduceSub, Int.reduceMul, Int.reduceNeg, Int.reducePow, Int.reduceEq, ↓reduceIte, Nat.reduceEqDiff, Nat.reduceAdd, Nat.reduceMul, Nat.reduceLeDiff, Nat.reduceSub, Nat.reduceLT, Int.reduceToNat, Int.reduceLT, Int.reduceLE, reduceCtorEq]))
      · obtain ⟨r, q1, q2, q3, q4, q5, q6, q7⟩ := last (x / 4294967296 / 65536) 48 48 rfl (by show _ = x / 281474976710656; omega) (by omega) (by omega) (by decide)
        refine ⟨r + 48, by omega, q2, callF_of (Fn_ofK (fn := F71) rfl (by simp [F71]) ?_)⟩
        try simp only [r71_0, r71_1, r71_2, r71_3, r71_4, r71_5, r71_6, r71_7, r71_8, r71_9, r71_10, c71, F71, c1, c2, c3, q3, q4, q5, q6, q7, go_sem, Int.reduceTMod, Int.reduceTDiv, Int.reduceDiv, Int.reduceMod, Int.reduceAdd, Int.reduceSub, Int.reduceMul, Int.reduceNeg, Int.reducePow, Int.reduceEq, ↓reduceIte, Nat.reduceEqDiff, Nat.reduceAdd, Nat.reduceMul, Nat.reduceLeDiff, Nat.reduceSub, Nat.reduceLT, Int.reduceToNat, Int.reduceLT, Int.reduceLE, reduceCtorEq]
        repeat' ((first | refine FK_split (fun h_ => ?_) (fun h_ => ?_) | refine GK_split (fun h_ => ?_) (fun h_ => ?_) | refine ite_both (fun h_ => ?_) (fun h_ => ?_)) <;> (try simp only [decide_eq_true_eq, decide_eq_false_iff_not, Bool.not_true, Bool.not_false, Bool.not_eq_true', Bool.not_eq_false', Bool.not_eq_eq_eq_not, Decidable.not_not] at h_) <;> (try simp only [r71_0, r71_1, r71_2, r71_3, r71_4, r71_5, r71_6, r71_7, r71_8, r71_9, r71_10, c71, F71, c1, c2, c3, q3, q4, q5, q6, q7, h_, go_sem, Int.reduceTMod, Int.reduceTDiv, Int.reduceDiv, Int.reduceMod, Int.reduceAdd, Int.reduceSub, Int.reduceMul, Int.reduceNeg, Int.reducePow, Int.reduceEq, ↓reduceIte, Nat.reduceEqDiff, Nat.reduceAdd, Nat.reduceMul, Nat.reduceLeDiff, Nat.reduceSub, Nat.reduceLT, Int.reduceToNat, Int.reduceLT, Int.reduceLE, reduceCtorEq]))
    · by_cases c3 : 256 ≤ x / 4294967296
      · obtain ⟨r, q1, q2, q3, q4, q5, q6, q7⟩ := last (x / 4294967296 / 256) 40 40 rfl (by show _ = x / 1099511627776; omega) (by omega) (by omega) (by decide)
        refine ⟨r + 40, by omega, q2, callF_of (Fn_ofK (fn := F71) rfl (by simp [F71]) ?_)⟩
        try simp only [r71_0, r71_1, r71_2, r71_3, r71_4, r71_5, r71_6, r71_7, r71_8, r71_9, r71_10, c71, F71, c1, c2, c3, q3, q4, q5, q6, q7, go_sem, Int.reduceTMod, Int.reduceTDiv, Int.reduceDiv, Int.reduceMod, Int.reduceAdd, Int.reduceSub, Int.reduceMul, Int.reduceNeg, Int.reducePow, Int.reduceEq, ↓reduceIte, Nat.reduceEqDiff, Nat.reduceAdd, Nat.reduceMul, Nat.reduceLeDiff, Nat.reduceSub, Nat.reduceLT, Int.reduceToNat, Int.reduceLT, Int.reduceLE, reduceCtorEq]
        repeat' ((first | refine FK_split (fun h_ => ?_) (fun h_ => ?_) | refine GK_split (fun h_ => ?_) (fun h_ => ?_) | refine ite_both (fun h_ => ?_) (fun h_ => ?_)) <;> (try simp only [decide_eq_true_eq, decide_eq_false_iff_not, Bool.not_true, Bool.not_false, Bool.not_eq_true', Bool.not_eq_false', Bool.not_eq_eq_eq_not, Decidable.not_not] at h_) <;> (try simp only [r71_0, r71_1, r71_2, r71_3, r71_4, r71_5, r71_6, r71_7, r71_8, r71_9, r71_10, c71, F71, c1, c2, c3, q3, q4, q5, q6, q7, h_, go_sem, Int.reduceTMod, Int.reduceTDiv, Int.reduceDiv, Int.reduceMod, Int.reduceAdd, Int.reduceSub, Int.reduceMul, Int.reduceNeg, Int.reducePow, Int.reduceEq, ↓reduceIte, Nat.reduceEqDiff, Nat.reduceAdd, Nat.reduceMul, Nat.reduceLeDiff, Nat.reduceSub, Nat.reduceLT, Int.reduceToNat, Int.reduceLT, Int.reduceLE, reduceCtorEq]))
      · obtain ⟨r, q1, q2, q3, q4, q5, q6, q7⟩ := last (x / 4294967296) 32 32 rfl rfl (by omega) (by omega) (by decide)
        refine ⟨r + 32, by omega, q2, callF_of (Fn_ofK (fn := F71) rfl (by simp [F71]) ?_)⟩
        try simp only [r71_0, r71_1, r71_2, r71_3, r71_4, r71_5, r71_6, r71_7, r71_8, r71_9, r71_10, c71, F71, c1, c2, c3, q3, q4, q5, q6, q7, go_sem, Int.reduceTMod, Int.reduceTDiv, Int.reduceDiv, Int.reduceMod, Int.reduceAdd, Int.reduceSub, Int.reduceMul, Int.reduceNeg, Int.reducePow, Int.reduceEq, ↓reduceIte, Nat.reduceEqDiff, Nat.reduceAdd, Nat.reduceMul, Nat.reduceLeDiff, Nat.reduceSub, Nat.reduceLT, Int.reduceToNat, Int.reduceLT, Int.reduceLE, reduceCtorEq]
        repeat' ((first | refine FK_split (fun h_ => ?_) (fun h_ => ?_) | refine GK_split (fun h_ => ?_) (fun h_ => ?_) | refine ite_both (fun h_ => ?_) (fun h_ => ?_)) <;> (try simp only [decide_eq_true_eq, decide_eq_false_iff_not, Bool.not_true, Bool.not_false, Bool.not_eq_true', Bool.not_eq_false', Bool.not_eq_eq_eq_not, Decidable.not_not] at h_) <;> (try simp only [r71_0, r71_1, r71_2, r71_3, r71_4, r71_5, r71_6, r71_7, r71_8, r71_9, r71_10, c71, F71, c1, c2, c3, q3, q4, q5, q6, q7, h_, go_sem, Int.reduceTMod, Int.reduceTDiv, Int.reduceDiv, Int.reduceMod, Int.reduceAdd, Int.reduceSub, Int.reduceMul, Int.reduceNeg, Int.reducePow, Int.reduceEq, ↓reduceIte, Nat.reduceEqDiff, Nat.reduceAdd, Nat.reduceMul, Nat.reduceLeDiff, Nat.reduceSub, Nat.reduceLT, Int.reduceToNat, Int.reduceLT, Int.reduceLE, reduceCtorEq]))
  · by_cases c2 : 65536 ≤ x
    · by_cases c3 : 256 ≤ x / 65536
      · obtain ⟨r, q1, q2, q3, q4, q5, q6, q7⟩ := last (x / 65536 / 256) 24 24 rfl (by show _ = x / 16777216; omega) (by omega) (by omega) (by decide)
        refine ⟨r + 24, by omega, q2, callF_of (Fn_ofK (fn := F71) rfl (by simp [F71]) ?_)⟩
        try simp only [r71_0, r71_1, r71_2, r71_3, r71_4, r71_5, r71_6, r71_7, r71_8, r71_9, r71_10, c71, F71, c1, c2, c3, q3, q4, q5, q6, q7, go_sem, Int.reduceTMod, Int.reduceTDiv, Int.reduceDiv, Int.reduceMod, Int.reduceAdd, Int.reduceSub, Int.reduceMul, Int.reduceNeg, Int.reducePow, Int.reduceEq, ↓reduceIte, Nat.reduceEqDiff, Nat.reduceAdd, Nat.reduceMul, Nat.reduceLeDiff, Nat.reduceSub, Nat.reduceLT, Int.reduceToNat, Int.reduceLT, Int.reduceLE, reduceCtorEq]
        repeat' ((first | refine FK_split (fun h_ => ?_) (fun h_ => ?_) | refine GK_split (fun h_ => ?_) (fun h_ => ?_) | refine ite_both (fun h_ => ?_) (fun h_ => ?_)) <;> (try simp only [decide_eq_true_eq, decide_eq_false_iff_not, Bool.not_true, Bool.not_false, Bool.not_eq_true', Bool.not_eq_false', Bool.not_eq_eq_eq_not, Decidable.not_not] at h_) <;> (try simp only [r71_0, r71_1, r71_2, r71_3, r71_4, r71_5, r71_6, r71_7, r71_8, r71_9, r71_10, c71, F71, c1, c2, c3, q3, q4, q5, q6, q7, h_, go_sem, Int.reduceTMod, Int.reduceTDiv, Int.reduceDiv, Int.reduceMod, Int.reduceAdd, Int.reduceSub, Int.reduceMul, Int.reduceNeg, Int.reducePow, Int.reduceEq, ↓reduceIte, Nat.reduceEqDiff, Nat.reduceAdd, Nat.reduceMul, Nat.reduceLeDiff, Nat.reduceSub, Nat.reduceLT, Int.reduceToNat, Int.reduceLT, Int.reduceLE, reduceCtorEq]))
      · obtain ⟨r, q1, q2, q3, q4, q5, q6, q7⟩ := last (x / 65536) 16 16 rfl rfl (by omega) (by omega) (by decide)
        refine ⟨r + 16, by omega, q2, callF_of (Fn_ofK (fn := F71) rfl (by simp [F71]) ?_)⟩
        try simp only [r71_0, r71_1, r71_2, r71_3, r71_4, r71_5, r71_6, r71_7, r71_8, r71_9, r71_10, c71, F71, c1, c2, c3, q3, q4, q5, q6, q7, go_sem, Int.reduceTMod, Int.reduceTDiv, Int.reduceDiv, Int.reduceMod, Int.reduceAdd, Int.reduceSub, Int.reduceMul, Int.reduceNeg, Int.reducePow, Int.reduceEq, ↓reduceIte, Nat.reduceEqDiff, Nat.reduceAdd, Nat.reduceMul, Nat.reduceLeDiff, Nat.reduceSub, Nat.reduceLT, Int.reduceToNat, Int.reduceLT, Int.reduceLE, reduceCtorEq]
        repeat' ((first | refine FK_split (fun h_ => ?_) (fun h_ => ?_) | refine GK_split (fun h_ => ?_) (fun h_ => ?_) | refine ite_both (fun h_ => ?_) (fun h_ => ?_)) <;> (try simp only [decide_eq_true_eq, decide_eq_false_iff_not, Bool.not_true, Bool.not_false, Bool.not_eq_true', Bool.not_eq_false', Bool.not_eq_eq_eq_not, Decidable.not_not] at h_) <;> (try simp only [r71_0, r71_1, r71_2, r71_3, r71_4, r71_5, r71_6, r71_7, r71_8, r71_9, r71_10, c71, F71, c1, c2, c3, q3, q4, q5, q6, q7, h_, go_sem, Int.reduceTMod, Int.reduceTDiv, Int.reduceDiv, Int.reduceMod, Int.reduceAdd, Int.reduceSub, Int.reduceMul, Int.reduceNeg, Int.reducePow, Int.reduceEq, ↓reduceIte, Nat.reduceEqDiff, Nat.reduceAdd, Nat.reduceMul, Nat.reduceLeDiff, Nat.reduceSub, Nat.reduceLT, Int.reduceToNat, Int.reduceLT, Int.reduceLE, reduceCtorEq]))
    · by_cases c3 : 256 ≤ x
      · obtain ⟨r, q1, q2, q3, q4, q5, q6, q7⟩ := last (x / 256) 8 8 rfl rfl (by omega) (by omega) (by decide)
        refine ⟨r + 8, by omega, q2, callF_of (Fn_ofK (fn := F71) rfl (by simp [F71]) ?_)⟩
        try simp only [r71_0, r71_1, r71_2, r71_3, r71_4, r71_5, r71_6, r71_7, r71_8, r71_9, r71_10, c71, F71, c1, c2, c3, q3, q4, q5, q6, q7, go_sem, Int.reduceTMod, Int.reduceTDiv, Int.reduceDiv, Int.reduceMod, Int.reduceAdd, Int.reduceSub, Int.reduceMul, Int.reduceNeg, Int.reducePow, Int.reduceEq, ↓reduceIte, Nat.reduceEqDiff, Nat.reduceAdd, Nat.reduceMul, Nat.reduceLeDiff, Nat.reduceSub, Nat.reduceLT, Int.reduceToNat, Int.reduceLT, Int.reduceLE, reduceCtorEq]
        repeat' ((first | refine FK_split (fun h_ => ?_) (fun h_ => ?_) | refine GK_split (fun h_ => ?_) (fun h_ => ?_) | refine ite_both (fun h_ => ?_) (fun h_ => ?_)) <;> (try simp only [decide_eq_true_eq, decide_eq_false_iff_not, Bool.not_true, Bool.not_false, Bool.not_eq_true', Bool.not_eq_false', Bool.not_eq_eq_eq_not, Decidable.not_not] at h_) <;> (try simp only [r71_0, r71_1, r71_2, r71_3, r71_4, r71_5, r71_6, r71_7, r71_8, r71_9, r71_10, c71, F71, c1, c2, c3, q3, q4, q5, q6, q7, h_, go_sem, Int.reduceTMod, Int.reduceTDiv, Int.reduceDiv, Int.reduceMod, Int.reduceAdd, Int.reduceSub, Int.reduceMul, Int.reduceNeg, Int.reducePow, Int.reduceEq, ↓reduceIte, Nat.reduceEqDiff, Nat.reduceAdd, Nat.reduceMul, Nat.reduceLeDiff, Nat.reduceSub, Nat.reduceLT, Int.reduceToNat, Int.reduceLT, Int.reduceLE, reduceCtorEq]))
      · obtain ⟨r, q1, q2, q3, q4, q5, q6, q7⟩ := last x 0 0 rfl (by simp) (by omega) (by omega) (by decide)
        refine ⟨r + 0, by omega, q2, callF_of (Fn_ofK (fn := F71) rfl (by simp [F71]) ?_)⟩
        try simp only [r71_0, r71_1, r71_2, r71_3, r71_4, r71_5, r71_6, r71_7, r71_8, r71_9, r71_10, c71, F71, c1, c2, c3, q3, q4, q5, q6, q7, go_sem, Int.reduceTMod, Int.reduceTDiv, Int.reduceDiv, Int.reduceMod, Int.reduceAdd, Int.reduceSub, Int.reduceMul, Int.reduceNeg, Int.reducePow, Int.reduceEq, ↓reduceIte, Nat.reduceEqDiff, Nat.reduceAdd, Nat.reduceMul, Nat.reduceLeDiff, Nat.reduceSub, Nat.reduceLT, Int.reduceToNat, Int.reduceLT, Int.reduceLE, reduceCtorEq]
        repeat' ((first | refine FK_split (fun h_ => ?_) (fun h_ => ?_) | refine GK_split (fun h_ => ?_) (fun h_ => ?_) | refine ite_both (fun h_ => ?_) (fun h_ => ?_)) <;> (try simp only [decide_eq_true_eq, decide_eq_false_iff_not, Bool.not_true, Bool.not_false, Bool.not_eq_true', Bool.not_eq_false', Bool.not_eq_eq_eq_not, Decidable.not_not] at h_) <;> (try simp only [r71_0, r71_1, r71_2, r71_3, r71_4, r71_5, r71_6, r71_7, r71_8, r71_9, r71_10, c71, F71, c1, c2, c3, q3, q4, q5, q6, q7, h_, go_sem, Int.reduceTMod, Int.reduceTDiv, Int.reduceDiv, Int.reduceMod, Int.reduceAdd, Int.reduceSub, Int.reduceMul, Int.reduceNeg, Int.reducePow, Int.reduceEq, ↓reduceIte, Nat.reduceEqDiff, Nat.reduceAdd, Nat.reduceMul, Nat.reduceLeDiff, Nat.reduceSub, Nat.reduceLT, Int.reduceToNat, Int.reduceLT, Int.reduceLE, reduceCtorEq]))
/-- The shift that brings the highest digit to the top. -/
theorem v_LZ {x : Int} (h0 : 0 < x) (h1 : x < 18446744073709551616) :
    ∃ s : Nat, s ≤ 63 ∧ 9223372036854775808 ≤ x * 2 ^ s ∧ x * 2 ^ s < 18446744073709551616 ∧ callF TA 75 [RU x] (fun _ => none) 0 = some (RI s) := by
  obtain ⟨r, e1, ⟨e2, e2'⟩, e3⟩ := v_Len64 h0 h1
  have hr : r ≠ 0 := by intro h; subst h; simp at e2; omega
  have pw : (2 : Int) ^ r * 2 ^ (64 - r) = 18446744073709551616 := by rw [← Int.pow_add, show r + (64 - r) = 64 by omega]; decide
  have hp : (0 : Int) < 2 ^ (64 - r) := Int.pow_pos (by decide)
  have m1 := Int.mul_lt_mul_of_pos_right e2 hp
  have m2 := Int.mul_le_mul_of_nonneg_right e2' (Int.le_of_lt hp)
  rw [pw] at m1 m2
  rw [Int.mul_assoc] at m2
  refine ⟨64 - r, by omega, by omega, m1, callF_of (Fn_ofK (fn := F75) rfl (by simp [F75]) ?_)⟩
  have w : IntKind.i64.wrap (64 - (r : Int)) = ((64 - r : Nat) : Int) := by rw [IntKind.wrap_i64]; omega
  try simp only [r75_0, r75_1, c75, F75, e3, w, go_sem, Int.reduceTMod, Int.reduceTDiv, Int.reduceDiv, Int.reduceMod, Int.reduceAdd, Int.reduceSub, Int.reduceMul, Int.reduceNeg, Int.reducePow, Int.reduceEq, ↓reduceIte, Nat.reduceEqDiff, Nat.reduceAdd, Nat.reduceMul, Nat.reduceLeDiff, Nat.reduceSub, Nat.reduceLT, Int.reduceToNat, Int.reduceLT, Int.reduceLE, reduceCtorEq]
  repeat' ((first | refine FK_split (fun h_ => ?_) (fun h_ => ?_) | refine GK_split (fun h_ => ?_) (fun h_ => ?_) | refine ite_both (fun h_ => ?_) (fun h_ => ?_)) <;> (try simp only [decide_eq_true_eq, decide_eq_false_iff_not, Bool.not_true, Bool.not_false, Bool.not_eq_true', Bool.not_eq_false', Bool.not_eq_eq_eq_not, Decidable.not_not] at h_) <;> (try simp only [r75_0, r75_1, c75, F75, e3, w, h_, go_sem, Int.reduceTMod, Int.reduceTDiv, Int.reduceDiv, Int.reduceMod, Int.reduceAdd, Int.reduceSub, Int.reduceMul, Int.reduceNeg, Int.reducePow, Int.reduceEq, ↓reduceIte, Nat.reduceEqDiff, Nat.reduceAdd, Nat.reduceMul, Nat.reduceLeDiff, Nat.reduceSub, Nat.reduceLT, Int.reduceToNat, Int.reduceLT, Int.reduceLE, reduceCtorEq]))

/- Plain numbers: what a shift over two words comes to. Conditions: those that each theorem names. -/
open Go Go.RowKit

theorem or_comm (k : IntKind) (x y : Int) : Go.bits .or k x y = Go.bits .or k y x := by
  show k.wrap ((BitVec.ofInt k.bits x ||| BitVec.ofInt k.bits y).toNat : Int) = k.wrap ((BitVec.ofInt k.bits y ||| BitVec.ofInt k.bits x).toNat : Int)
  rw [BitVec.or_comm]
theorem wraps_u64 (n : Int) (h₀ : 0 ≤ n) (h₁ : n < 2 ^ 64) : IntKind.u64.wrap n = n := by
  have : (2 : Int) ^ 64 = 18446744073709551616 := by decide
  rw [wu64]; omega
theorem shrPart {p : Int} {k : Nat} (h0 : 0 < k) (h1 : k < 64) :
    Go.bits .or .u64 (p % 18446744073709551616 / 2 ^ k) (IntKind.u64.wrap (p / 18446744073709551616 % 18446744073709551616 * 2 ^ (64 - k))) = p / 2 ^ k % 18446744073709551616 := by
  have hk : (0 : Int) < 2 ^ k := Int.pow_pos (by decide)
  have hm : (0 : Int) < 2 ^ (64 - k) := Int.pow_pos (by decide)
  have hw : (2 : Int) ^ k * 2 ^ (64 - k) = 18446744073709551616 := by
    rw [← Int.pow_add, show k + (64 - k) = 64 by omega]; decide
  rw [or_comm, wu64]
  obtain ⟨K, eK⟩ : ∃ K : Int, K = 2 ^ k := ⟨_, rfl⟩
  obtain ⟨M, eM⟩ : ∃ M : Int, M = 2 ^ (64 - k) := ⟨_, rfl⟩
  rw [← eK] at hk hw ⊢
  rw [← eM] at hm hw ⊢
  obtain ⟨H, eH⟩ : ∃ H : Int, H = p / 18446744073709551616 := ⟨_, rfl⟩
  obtain ⟨L, eL⟩ : ∃ L : Int, L = p % 18446744073709551616 := ⟨_, rfl⟩
  rw [← eH, ← eL]
  have eP : p = L + K * (M * H) := by rw [← Int.mul_assoc, hw]; omega
  have l0 : 0 ≤ L := by omega
  have l1 : L / K < M := Int.ediv_lt_of_lt_mul hk (by rw [Int.mul_comm, hw]; omega)
  have l2 : 0 ≤ L / K := Int.ediv_nonneg l0 (by omega)
  have l3 : M ≤ 18446744073709551616 := by
    have := Int.mul_le_mul_of_nonneg_right (show (1 : Int) ≤ K by omega) (show 0 ≤ M by omega)
    omega
  have eq1 : p / K = L / K + M * H := by rw [eP, Int.add_mul_ediv_left _ _ (by omega)]
  have em : (H % 18446744073709551616 * M) % 18446744073709551616 = (M * H) % 18446744073709551616 := by
    rw [Int.mul_comm M H, Int.mul_emod, Int.emod_emod_of_dvd _ (Int.dvd_refl _), ← Int.mul_emod]
  have hd : (M * H) % 18446744073709551616 % M = 0 := by
    rw [Int.emod_emod_of_dvd _ ⟨K, by rw [Int.mul_comm, hw]⟩]
    exact Int.mul_emod_right _ _
  have pw : (2 : Int) ^ 64 = 18446744073709551616 := by decide
  rw [em, bits_join .u64 64 (by decide) wraps_u64 (64 - k) _ _ (by omega) (by rw [← eM]; exact hd) (by omega) l2 (by rw [← eM]; exact l1) (by omega), eq1]
  -- the sum does not reach the next
  obtain ⟨Q, eQ⟩ : ∃ Q : Int, Q = (M * H) / 18446744073709551616 := ⟨_, rfl⟩
  obtain ⟨R, eR⟩ : ∃ R : Int, R = (M * H) % 18446744073709551616 := ⟨_, rfl⟩
  have es : M * H = 18446744073709551616 * Q + R := by omega
  have r1 : R + L / K < 18446744073709551616 := by
    rw [← eR] at hd
    obtain ⟨t, ht⟩ := Int.dvd_of_emod_eq_zero hd
    have hR : R < 18446744073709551616 := by omega
    rw [ht, ← hw, Int.mul_comm K M] at hR
    have : t < K := Int.lt_of_mul_lt_mul_left hR (by omega)
    have h5 : M * t ≤ M * (K - 1) := Int.mul_le_mul_of_nonneg_left (by omega) (by omega)
    rw [Int.mul_sub, Int.mul_one, Int.mul_comm M K, hw] at h5
    omega
  rw [es]
  omega

/- Package math/bits walked: two words divided by one. Conditions: those that each theorem names. -/
open Go Go.Proofs Go.RowKit
set_option linter.unusedSimpArgs false
set_option linter.unusedVariables false

section
variable {U u Y y1 y0 q r : Int}
/-- A digit that is too great. -/
theorem digit_less (hY : Y = y1 * 4294967296 + y0) (hYp : 0 < Y) (hu0 : 0 ≤ u) (hu1 : u < 4294967296) (hU : U < Y) (hq : q * y1 + r = U)
    (h : 4294967296 ≤ q ∨ 4294967296 * r + u < q * y0) : (U * 4294967296 + u) / Y ≤ q - 1 := by
  have : (U * 4294967296 + u) / Y < q := by
    rcases h with h | h
    · have : (U * 4294967296 + u) / Y < 4294967296 := Int.ediv_lt_of_lt_mul hYp (by omega)
      omega
    · refine Int.ediv_lt_of_lt_mul hYp ?_
      have e : q * Y = (q * y1) * 4294967296 + q * y0 := by rw [hY, Int.mul_add, Int.mul_assoc]
      rw [e]
      omega
  omega
/-- A digit that is small enough. -/
theorem digit_enough (hY : Y = y1 * 4294967296 + y0) (hYp : 0 < Y) (hq : q * y1 + r = U) (h : q * y0 ≤ 4294967296 * r + u) : q ≤ (U * 4294967296 + u) / Y := by
  refine Int.le_ediv_of_mul_le hYp ?_
  have e : q * Y = (q * y1) * 4294967296 + q * y0 := by rw [hY, Int.mul_add, Int.mul_assoc]
  rw [e]
  omega
theorem first_digit (hY : Y = y1 * 4294967296 + y0) (h1 : 2147483648 ≤ y1) (h0 : 0 ≤ y0) (h0' : y0 < 4294967296) (hU0 : 0 ≤ U) (hU : U < Y) (u : Int) (hu0 : 0 ≤ u) (hu1 : u < 4294967296) :
    0 ≤ U / y1 ∧ U / y1 ≤ 4294967297 ∧ (U * 4294967296 + u) / Y ≤ U / y1 := by
  have hYp : 0 < Y := by omega
  have a1 := Int.mul_ediv_add_emod U y1
  have a2 := Int.emod_nonneg U (show y1 ≠ 0 by omega)
  have a3 := Int.emod_lt_of_pos U (show 0 < y1 by omega)
  refine ⟨Int.ediv_nonneg hU0 (by omega), ?_, ?_⟩
  · have : U / y1 < 4294967298 := Int.ediv_lt_of_lt_mul (by omega) (by omega)
    omega
  · have : (U * 4294967296 + u) / Y < U / y1 + 1 := by
      refine Int.ediv_lt_of_lt_mul hYp ?_
      have e : (U / y1 + 1) * Y = (y1 * (U / y1)) * 4294967296 + y1 * 4294967296 + (U / y1 + 1) * y0 := by rw [hY]; grind
      have : 0 ≤ (U / y1 + 1) * y0 := Int.mul_nonneg (by have := Int.ediv_nonneg hU0 (show 0 ≤ y1 by omega); omega) h0
      rw [e]
      omega
    omega
end
theorem dloop0 {U u Y y1 y0 : Int} {m : Mem} {N : Nat} (hY : Y = y1 * 4294967296 + y0) (h1 : 2147483648 ≤ y1) (h1' : y1 < 4294967296) (h0 : 0 ≤ y0) (h0' : y0 < 4294967296)
    (hu0 : 0 ≤ u) (hu1 : u < 4294967296) (hU0 : 0 ≤ U) (hU : U < Y) (K : Kt) :
    ∀ (n : Nat) (q r : Int) (e : Nat → Reg), q * y1 + r = U → 0 ≤ r → r < 4294967296 → 4294967296 - r ≤ n * 2147483648 → 0 ≤ q → q ≤ 4294967297 → (U * 4294967296 + u) / Y ≤ q →
      e 15 = RU q → e 16 = RU r → e 9 = RU y1 → e 10 = RU y0 → e 13 = RU u →
      (∀ e' : Nat → Reg, e' 15 = RU ((U * 4294967296 + u) / Y) → e' 2 = e 2 → e' 8 = e 8 → e' 9 = e 9 → e' 10 = e 10 → e' 11 = e 11 → e' 13 = e 13 → e' 14 = e 14 → KN TA K ⟨e', m, N⟩) →
      XK TA (.loop l57_0) ⟨e, m, N⟩ (Kt.blk 0 K) := by
  have hYp : 0 < Y := by omega
  intro n
  induction n with
  | zero => intro q r e _ _ h2 h3; omega
  | succ n ih =>
    intro q r e hq hr0 hr1 hn hq0 hqb hqt e15 e16 e9 e10 e13 hx
    have p0 : 0 ≤ q * y0 := Int.mul_nonneg hq0 h0
    have p1 : q * y0 ≤ 4294967297 * 4294967295 := Int.mul_le_mul hqb (by omega) h0 (by decide)
    have wq : q * y0 % 18446744073709551616 = q * y0 := Int.emod_eq_of_lt p0 (by omega)
    have wr : (4294967296 * r % 18446744073709551616 + u) % 18446744073709551616 = 4294967296 * r + u := by omega
    have more : (4294967296 ≤ q ∨ 4294967296 * r + u < q * y0) → (U * 4294967296 + u) / Y ≤ q - 1 := digit_less hY hYp hu0 hu1 hU hq
    have w1 : (r + y1) % 18446744073709551616 = r + y1 := by omega
    have e1 : (q - 1) * y1 + (r + y1) = U := by rw [Int.sub_mul, Int.one_mul]; omega
    by_cases c1 : 4294967296 ≤ q ∨ 4294967296 * r + u < q * y0
    · have hless := more c1
      have hQ0 : 0 ≤ (U * 4294967296 + u) / Y := Int.ediv_nonneg (by omega) (by omega)
      have w2 : (q - 1) % 18446744073709551616 = q - 1 := by omega
      by_cases c : 4294967296 ≤ r + y1
      · have p2 : (q - 1) * y0 ≤ 4294967296 * 4294967295 := Int.mul_le_mul (by omega) (by omega) h0 (by decide)
        have hge := digit_enough hY hYp e1 (u := u) (by omega)
        have hqe : q - 1 = (U * 4294967296 + u) / Y := by omega
        by_cases c3 : 4294967296 ≤ q
        · rw [XK_loop]
          try simp only [l57_0, r57_0, r57_1, r57_2, r57_3, r57_4, r57_5, r57_6, r57_7, r57_8, r57_9, r57_10, r57_11, r57_12, r57_13, r57_14, r57_15, r57_16, r57_17, r57_18, r57_19, r57_20, r57_21, r57_22, r57_23, r57_24, r57_25, r57_26, r57_27, r57_28, c57, F57, e15, e16, e9, e10, e13, c3, c, w1, w2, go_sem, Int.reduceTMod, Int.reduceTDiv, Int.reduceDiv, Int.reduceMod, Int.reduceAdd, Int.reduceSub, Int.reduceMul, Int.reduceNeg, Int.reducePow, Int.reduceEq, ↓reduceIte, Nat.reduceEqDiff, Nat.reduceAdd, Nat.reduceMul, Nat.reduceLeDiff, Nat.reduceSub, Nat.reduceLT, Int.reduceToNat, Int.reduceLT, Int.reduceLE, reduceCtorEq]
          repeat' ((first | refine FK_split (fun h_ => ?_) (fun h_ => ?_) | refine GK_split (fun h_ => ?_) (fun h_ => ?_) | refine ite_both (fun h_ => ?_) (fun h_ => ?_)) <;> (try simp only [decide_eq_true_eq, decide_eq_false_iff_not, Bool.not_true, Bool.not_false, Bool.not_eq_true', Bool.not_eq_false', Bool.not_eq_eq_eq_not, Decidable.not_not] at h_) <;> (try simp only [l57_0, r57_0, r57_1, r57_2, r57_3, r57_4, r57_5, r57_6, r57_7, r57_8, r57_9, r57_10, r57_11, r57_12, r57_13, r57_14, r57_15, r57_16, r57_17, r57_18, r57_19, r57_20, r57_21, r57_22, r57_23, r57_24, r57_25, r57_26, r57_27, r57_28, c57, F57, e15, e16, e9, e10, e13, c3, c, w1, w2, h_, go_sem, Int.reduceTMod, Int.reduceTDiv, Int.reduceDiv, Int.reduceMod, Int.reduceAdd, Int.reduceSub, Int.reduceMul, Int.reduceNeg, Int.reducePow, Int.reduceEq, ↓reduceIte, Nat.reduceEqDiff, Nat.reduceAdd, Nat.reduceMul, Nat.reduceLeDiff, Nat.reduceSub, Nat.reduceLT, Int.reduceToNat, Int.reduceLT, Int.reduceLE, reduceCtorEq]))
          refine hx _ ?_ ?_ ?_ ?_ ?_ ?_ ?_ ?_
          · simp only [hqe, go_sem, Int.reduceTMod, Int.reduceTDiv, Int.reduceDiv, Int.reduceMod, Int.reduceAdd, Int.reduceSub, Int.reduceMul, Int.reduceNeg, Int.reducePow, Int.reduceEq, ↓reduceIte, Nat.reduceEqDiff, Nat.reduceAdd, Nat.reduceMul, Nat.reduceLeDiff, Nat.reduceSub, Nat.reduceLT, Int.reduceToNat, Int.reduceLT, Int.reduceLE, reduceCtorEq]
          all_goals simp only [e9, e10, e13, go_sem, Int.reduceTMod, Int.reduceTDiv, Int.reduceDiv, Int.reduceMod, Int.reduceAdd, Int.reduceSub, Int.reduceMul, Int.reduceNeg, Int.reducePow, Int.reduceEq, ↓reduceIte, Nat.reduceEqDiff, Nat.reduceAdd, Nat.reduceMul, Nat.reduceLeDiff, Nat.reduceSub, Nat.reduceLT, Int.reduceToNat, Int.reduceLT, Int.reduceLE, reduceCtorEq]
        · have c4 := c1.resolve_left c3
          rw [XK_loop]
          try simp only [l57_0, r57_0, r57_1, r57_2, r57_3, r57_4, r57_5, r57_6, r57_7, r57_8, r57_9, r57_10, r57_11, r57_12, r57_13, r57_14, r57_15, r57_16, r57_17, r57_18, r57_19, r57_20, r57_21, r57_22, r57_23, r57_24, r57_25, r57_26, r57_27, r57_28, c57, F57, e15, e16, e9, e10, e13, c3, c4, c, w1, w2, wq, wr, go_sem, Int.reduceTMod, Int.reduceTDiv, Int.reduceDiv, Int.reduceMod, Int.reduceAdd, Int.reduceSub, Int.reduceMul, Int.reduceNeg, Int.reducePow, Int.reduceEq, ↓reduceIte, Nat.reduceEqDiff, Nat.reduceAdd, Nat.reduceMul, Nat.reduceLeDiff, Nat.reduceSub, Nat.reduceLT, Int.reduceToNat, Int.reduceLT, Int.reduceLE, reduceCtorEq]
          repeat' ((first | refine FK_split (fun h_ => ?_) (fun h_ => ?_) | refine GK_split (fun h_ => ?_) (fun h_ => ?_) | refine ite_both (fun h_ => ?_) (fun h_ => ?_)) <;> (try simp only [decide_eq_true_eq, decide_eq_false_iff_not, Bool.not_true, Bool.not_false, Bool.not_eq_true', Bool.not_eq_false', Bool.not_eq_eq_eq_not, Decidable.not_not] at h_) <;> (try simp only [l57_0, r57_0, r57_1, r57_2, r57_3, r57_4, r57_5, r57_6, r57_7, r57_8, r57_9, r57_10, r57_11, r57_12, r57_13, r57_14, r57_15, r57_16, r57_17, r57_18, r57_19, r57_20, r57_21, r57_22, r57_23, r57_24, r57_25, r57_26, r57_27, r57_28, c57, F57, e15, e16, e9, e10, e13, c3, c4, c, w1, w2, wq, wr, h_, go_sem, Int.reduceTMod, Int.reduceTDiv, Int.reduceDiv, Int.reduceMod, Int.reduceAdd, Int.reduceSub, Int.reduceMul, Int.reduceNeg, Int.reducePow, Int.reduceEq, ↓reduceIte, Nat.reduceEqDiff, Nat.reduceAdd, Nat.reduceMul, Nat.reduceLeDiff, Nat.reduceSub, Nat.reduceLT, Int.reduceToNat, Int.reduceLT, Int.reduceLE, reduceCtorEq]))
          refine hx _ ?_ ?_ ?_ ?_ ?_ ?_ ?_ ?_
          · simp only [hqe, go_sem, Int.reduceTMod, Int.reduceTDiv, Int.reduceDiv, Int.reduceMod, Int.reduceAdd, Int.reduceSub, Int.reduceMul, Int.reduceNeg, Int.reducePow, Int.reduceEq, ↓reduceIte, Nat.reduceEqDiff, Nat.reduceAdd, Nat.reduceMul, Nat.reduceLeDiff, Nat.reduceSub, Nat.reduceLT, Int.reduceToNat, Int.reduceLT, Int.reduceLE, reduceCtorEq]
          all_goals simp only [e9, e10, e13, go_sem, Int.reduceTMod, Int.reduceTDiv, Int.reduceDiv, Int.reduceMod, Int.reduceAdd, Int.reduceSub, Int.reduceMul, Int.reduceNeg, Int.reducePow, Int.reduceEq, ↓reduceIte, Nat.reduceEqDiff, Nat.reduceAdd, Nat.reduceMul, Nat.reduceLeDiff, Nat.reduceSub, Nat.reduceLT, Int.reduceToNat, Int.reduceLT, Int.reduceLE, reduceCtorEq]
      · have go : ∀ e' : Nat → Reg, e' 15 = RU (q - 1) → e' 16 = RU (r + y1) → e' 2 = e 2 → e' 8 = e 8 → e' 9 = e 9 → e' 10 = e 10 → e' 11 = e 11 → e' 13 = e 13 → e' 14 = e 14 → XK TA (.loop l57_0) ⟨e', m, N⟩ (Kt.blk 0 K) := by
          intro e' k15 k16 k2 k8 k9 k10 k11 k13 k14
          refine ih (q - 1) (r + y1) e' e1 (by omega) (by omega) (by omega) (by omega) (by omega) hless k15 k16 (by rw [k9]; exact e9) (by rw [k10]; exact e10) (by rw [k13]; exact e13) ?_
          intro e2 j15 j2 j8 j9 j10 j11 j13 j14
          exact hx e2 j15 (by rw [j2, k2]) (by rw [j8, k8]) (by rw [j9, k9]) (by rw [j10, k10]) (by rw [j11, k11]) (by rw [j13, k13]) (by rw [j14, k14])
        by_cases c3 : 4294967296 ≤ q
        · rw [XK_loop]
          try simp only [l57_0, r57_0, r57_1, r57_2, r57_3, r57_4, r57_5, r57_6, r57_7, r57_8, r57_9, r57_10, r57_11, r57_12, r57_13, r57_14, r57_15, r57_16, r57_17, r57_18, r57_19, r57_20, r57_21, r57_22, r57_23, r57_24, r57_25, r57_26, r57_27, r57_28, c57, F57, e15, e16, e9, e10, e13, c3, c, w1, w2, go_sem, Int.reduceTMod, Int.reduceTDiv, Int.reduceDiv, Int.reduceMod, Int.reduceAdd, Int.reduceSub, Int.reduceMul, Int.reduceNeg, Int.reducePow, Int.reduceEq, ↓reduceIte, Nat.reduceEqDiff, Nat.reduceAdd, Nat.reduceMul, Nat.reduceLeDiff, Nat.reduceSub, Nat.reduceLT, Int.reduceToNat, Int.reduceLT, Int.reduceLE, reduceCtorEq]
          repeat' ((first | refine FK_split (fun h_ => ?_) (fun h_ => ?_) | refine GK_split (fun h_ => ?_) (fun h_ => ?_) | refine ite_both (fun h_ => ?_) (fun h_ => ?_)) <;> (try simp only [decide_eq_true_eq, decide_eq_false_iff_not, Bool.not_true, Bool.not_false, Bool.not_eq_true', Bool.not_eq_false', Bool.not_eq_eq_eq_not, Decidable.not_not] at h_) <;> (try simp only [l57_0, r57_0, r57_1, r57_2, r57_3, r57_4, r57_5, r57_6, r57_7, r57_8, r57_9, r57_10, r57_11, r57_12, r57_13, r57_14, r57_15, r57_16, r57_17, r57_18, r57_19, r57_20, r57_21, r57_22, r57_23, r57_24, r57_25, r57_26, r57_27, r57_28, c57, F57, e15, e16, e9, e10, e13, c3, c, w1, w2, h_, go_sem, Int.reduceTMod, Int.reduceTDiv, Int.reduceDiv, Int.reduceMod, Int.reduceAdd, Int.reduceSub, Int.reduceMul, Int.reduceNeg, Int.reducePow, Int.reduceEq, ↓reduceIte, Nat.reduceEqDiff, Nat.reduceAdd, Nat.reduceMul, Nat.reduceLeDiff, Nat.reduceSub, Nat.reduceLT, Int.reduceToNat, Int.reduceLT, Int.reduceLE, reduceCtorEq]))
          refine go _ ?_ ?_ ?_ ?_ ?_ ?_ ?_ ?_ ?_
          all_goals simp only [e9, e10, e13, go_sem, Int.reduceTMod, Int.reduceTDiv, Int.reduceDiv, Int.reduceMod, Int.reduceAdd, Int.reduceSub, Int.reduceMul, Int.reduceNeg, Int.reducePow, Int.reduceEq, ↓reduceIte, Nat.reduceEqDiff, Nat.reduceAdd, Nat.reduceMul, Nat.reduceLeDiff, Nat.reduceSub, Nat.reduceLT, Int.reduceToNat, Int.reduceLT, Int.reduceLE, reduceCtorEq]
        · have c4 := c1.resolve_left c3
          rw [XK_loop]
          try simp only [l57_0, r57_0, r57_1, r57_2, r57_3, r57_4, r57_5, r57_6, r57_7, r57_8, r57_9, r57_10, r57_11, r57_12, r57_13, r57_14, r57_15, r57_16, r57_17, r57_18, r57_19, r57_20, r57_21, r57_22, r57_23, r57_24, r57_25, r57_26, r57_27, r57_28, c57, F57, e15, e16, e9, e10, e13, c3, c4, c, w1, w2, wq, wr, go_sem, Int.reduceTMod, Int.reduceTDiv, Int.reduceDiv, Int.reduceMod, Int.reduceAdd, Int.reduceSub, Int.reduceMul, Int.reduceNeg, Int.reducePow, Int.reduceEq, ↓reduceIte, Nat.reduceEqDiff, Nat.reduceAdd, Nat.reduceMul, Nat.reduceLeDiff, Nat.reduceSub, Nat.reduceLT, Int.reduceToNat, Int.reduceLT, Int.reduceLE, reduceCtorEq]
          repeat' ((first | refine FK_split (fun h_ => ?_) (fun h_ => ?_) | refine GK_split (fun h_ => ?_) (fun h_ => ?_) | refine ite_both (fun h_ => ?_) (fun h_ => ?_)) <;> (try simp only [decide_eq_true_eq, decide_eq_false_iff_not, Bool.not_true, Bool.not_false, Bool.not_eq_true', Bool.not_eq_false', Bool.not_eq_eq_eq_not, Decidable.not_not] at h_) <;> (try simp only [l57_0, r57_0, r57_1, r57_2, r57_3, r57_4, r57_5, r57_6, r57_7, r57_8, r57_9, r57_10, r57_11, r57_12, r57_13, r57_14, r57_15, r57_16, r57_17, r57_18, r57_19, r57_20, r57_21, r57_22, r57_23, r57_24, r57_25, r57_26, r57_27, r57_28, c57, F57, e15, e16, e9, e10, e13, c3, c4, c, w1, w2, wq, wr, h_, go_sem, Int.reduceTMod, Int.reduceTDiv, Int.reduceDiv, Int.reduceMod, Int.reduceAdd, Int.reduceSub, Int.reduceMul, Int.reduceNeg, Int.reducePow, Int.reduceEq, ↓reduceIte, Nat.reduceEqDiff, Nat.reduceAdd, Nat.reduceMul, Nat.reduceLeDiff, Nat.reduceSub, Nat.reduceLT, Int.reduceToNat, Int.reduceLT, Int.reduceLE, reduceCtorEq]))
          refine go _ ?_ ?_ ?_ ?_ ?_ ?_ ?_ ?_ ?_
          all_goals simp only [e9, e10, e13, go_sem, Int.reduceTMod, Int.reduceTDiv, Int.reduceDiv, Int.reduceMod, Int.reduceAdd, Int.reduceSub, Int.reduceMul, Int.reduceNeg, Int.reducePow, Int.reduceEq, ↓reduceIte, Nat.reduceEqDiff, Nat.reduceAdd, Nat.reduceMul, Nat.reduceLeDiff, Nat.reduceSub, Nat.reduceLT, Int.reduceToNat, Int.reduceLT, Int.reduceLE, reduceCtorEq]
    · have c3 : ¬ 4294967296 ≤ q := fun h => c1 (Or.inl h)
      have c4 : ¬ 4294967296 * r + u < q * y0 := fun h => c1 (Or.inr h)
      have hge := digit_enough hY hYp hq (u := u) (by omega)
      have hqe : q = (U * 4294967296 + u) / Y := by omega
      rw [XK_loop]
      try simp only [l57_0, r57_0, r57_1, r57_2, r57_3, r57_4, r57_5, r57_6, r57_7, r57_8, r57_9, r57_10, r57_11, r57_12, r57_13, r57_14, r57_15, r57_16, r57_17, r57_18, r57_19, r57_20, r57_21, r57_22, r57_23, r57_24, r57_25, r57_26, r57_27, r57_28, c57, F57, e15, e16, e9, e10, e13, c3, c4, wq, wr, go_sem, Int.reduceTMod, Int.reduceTDiv, Int.reduceDiv, Int.reduceMod, Int.reduceAdd, Int.reduceSub, Int.reduceMul, Int.reduceNeg, Int.reducePow, Int.reduceEq, ↓reduceIte, Nat.reduceEqDiff, Nat.reduceAdd, Nat.reduceMul, Nat.reduceLeDiff, Nat.reduceSub, Nat.reduceLT, Int.reduceToNat, Int.reduceLT, Int.reduceLE, reduceCtorEq]
      repeat' ((first | refine FK_split (fun h_ => ?_) (fun h_ => ?_) | refine GK_split (fun h_ => ?_) (fun h_ => ?_) | refine ite_both (fun h_ => ?_) (fun h_ => ?_)) <;> (try simp only [decide_eq_true_eq, decide_eq_false_iff_not, Bool.not_true, Bool.not_false, Bool.not_eq_true', Bool.not_eq_false', Bool.not_eq_eq_eq_not, Decidable.not_not] at h_) <;> (try simp only [l57_0, r57_0, r57_1, r57_2, r57_3, r57_4, r57_5, r57_6, r57_7, r57_8, r57_9, r57_10, r57_11, r57_12, r57_13, r57_14, r57_15, r57_16, r57_17, r57_18, r57_19, r57_20, r57_21, r57_22, r57_23, r57_24, r57_25, r57_26, r57_27, r57_28, c57, F57, e15, e16, e9, e10, e13, c3, c4, wq, wr, h_, go_sem, Int.reduceTMod, Int.reduceTDiv, Int.reduceDiv, Int.reduceMod, Int.reduceAdd, Int.reduceSub, Int.reduceMul, Int.reduceNeg, Int.reducePow, Int.reduceEq, ↓reduceIte, Nat.reduceEqDiff, Nat.reduceAdd, Nat.reduceMul, Nat.reduceLeDiff, Nat.reduceSub, Nat.reduceLT, Int.reduceToNat, Int.reduceLT, Int.reduceLE, reduceCtorEq]))
      refine hx _ ?_ ?_ ?_ ?_ ?_ ?_ ?_ ?_
      · simp only [e15, hqe, go_sem, Int.reduceTMod, Int.reduceTDiv, Int.reduceDiv, Int.reduceMod, Int.reduceAdd, Int.reduceSub, Int.reduceMul, Int.reduceNeg, Int.reducePow, Int.reduceEq, ↓reduceIte, Nat.reduceEqDiff, Nat.reduceAdd, Nat.reduceMul, Nat.reduceLeDiff, Nat.reduceSub, Nat.reduceLT, Int.reduceToNat, Int.reduceLT, Int.reduceLE, reduceCtorEq]
      all_goals simp only [e9, e10, e13, go_sem, Int.reduceTMod, Int.reduceTDiv, Int.reduceDiv, Int.reduceMod, Int.reduceAdd, Int.reduceSub, Int.reduceMul, Int.reduceNeg, Int.reducePow, Int.reduceEq, ↓reduceIte, Nat.reduceEqDiff, Nat.reduceAdd, Nat.reduceMul, Nat.reduceLeDiff, Nat.reduceSub, Nat.reduceLT, Int.reduceToNat, Int.reduceLT, Int.reduceLE, reduceCtorEq]

/- Package math/bits walked: two words divided by one, to the end. Conditions: those that each theorem names. -/
open Go Go.Proofs Go.RowKit
set_option linter.unusedSimpArgs false
set_option linter.unusedVariables false

theorem dloop1 {U u Y y1 y0 : Int} {m : Mem} {N : Nat} (hY : Y = y1 * 4294967296 + y0) (h1 : 2147483648 ≤ y1) (h1' : y1 < 4294967296) (h0 : 0 ≤ y0) (h0' : y0 < 4294967296)
    (hu0 : 0 ≤ u) (hu1 : u < 4294967296) (hU0 : 0 ≤ U) (hU : U < Y) (K : Kt) :
    ∀ (n : Nat) (q r : Int) (e : Nat → Reg), q * y1 + r = U → 0 ≤ r → r < 4294967296 → 4294967296 - r ≤ n * 2147483648 → 0 ≤ q → q ≤ 4294967297 → (U * 4294967296 + u) / Y ≤ q →
      e 18 = RU q → e 16 = RU r → e 9 = RU y1 → e 10 = RU y0 → e 14 = RU u →
      (∀ e' : Nat → Reg, e' 18 = RU ((U * 4294967296 + u) / Y) → e' 2 = e 2 → e' 8 = e 8 → e' 9 = e 9 → e' 10 = e 10 → e' 15 = e 15 → e' 14 = e 14 → e' 17 = e 17 → KN TA K ⟨e', m, N⟩) →
      XK TA (.loop l57_1) ⟨e, m, N⟩ (Kt.blk 2 K) := by
  have hYp : 0 < Y := by omega
  intro n
  induction n with
  | zero => intro q r e _ _ h2 h3; omega
  | succ n ih =>
    intro q r e hq hr0 hr1 hn hq0 hqb hqt e18 e16 e9 e10 e14 hx
    have p0 : 0 ≤ q * y0 := Int.mul_nonneg hq0 h0
    have p1 : q * y0 ≤ 4294967297 * 4294967295 := Int.mul_le_mul hqb (by omega) h0 (by decide)
    have wq : q * y0 % 18446744073709551616 = q * y0 := Int.emod_eq_of_lt p0 (by omega)
    have wr : (4294967296 * r % 18446744073709551616 + u) % 18446744073709551616 = 4294967296 * r + u := by omega
    have more : (4294967296 ≤ q ∨ 4294967296 * r + u < q * y0) → (U * 4294967296 + u) / Y ≤ q - 1 := digit_less hY hYp hu0 hu1 hU hq
    have w1 : (r + y1) % 18446744073709551616 = r + y1 := by omega
    have e1 : (q - 1) * y1 + (r + y1) = U := by rw [Int.sub_mul, Int.one_mul]; omega
    by_cases c1 : 4294967296 ≤ q ∨ 4294967296 * r + u < q * y0
    · have hless := more c1
      have hQ0 : 0 ≤ (U * 4294967296 + u) / Y := Int.ediv_nonneg (by omega) (by omega)
      have w2 : (q - 1) % 18446744073709551616 = q - 1 := by omega
      by_cases c : 4294967296 ≤ r + y1
      · have p2 : (q - 1) * y0 ≤ 4294967296 * 4294967295 := Int.mul_le_mul (by omega) (by omega) h0 (by decide)
        have hge := digit_enough hY hYp e1 (u := u) (by omega)
        have hqe : q - 1 = (U * 4294967296 + u) / Y := by omega
        by_cases c3 : 4294967296 ≤ q
        · rw [XK_loop]
          try simp only [l57_1, r57_0, r57_1, r57_2, r57_3, r57_4, r57_5, r57_6, r57_7, r57_8, r57_9, r57_10, r57_11, r57_12, r57_13, r57_14, r57_15, r57_16, r57_17, r57_18, r57_19, r57_20, r57_21, r57_22, r57_23, r57_24, r57_25, r57_26, r57_27, r57_28, c57, F57, e18, e16, e9, e10, e14, c3, c, w1, w2, go_sem, Int.reduceTMod, Int.reduceTDiv, Int.reduceDiv, Int.reduceMod, Int.reduceAdd, Int.reduceSub, Int.reduceMul, Int.reduceNeg, Int.reducePow, Int.reduceEq, ↓reduceIte, Nat.reduceEqDiff, Nat.reduceAdd, Nat.reduceMul, Nat.reduceLeDiff, Nat.reduceSub, Nat.reduceLT, Int.reduceToNat, Int.reduceLT, Int.reduceLE, reduceCtorEq]
          repeat' ((first | refine FK_split (fun h_ => ?_) (fun h_ => ?_) | refine GK_split (fun h_ => ?_) (fun h_ => ?_) | refine ite_both (fun h_ => ?_) (fun h_ => ?_)) <;> (try simp only [decide_eq_true_eq, decide_eq_false_iff_not, Bool.not_true, Bool.not_false, Bool.not_eq_true', Bool.not_eq_false', Bool.not_eq_eq_eq_not, Decidable.not_not] at h_) <;> (try simp only [l57_1, r57_0, r57_1, r57_2, r57_3, r57_4, r57_5, r57_6, r57_7, r57_8, r57_9, r57_10, r57_11, r57_12, r57_13, r57_14, r57_15, r57_16, r57_17, r57_18, r57_19, r57_20, r57_21, r57_22, r57_23, r57_24, r57_25, r57_26, r57_27, r57_28, c57, F57, e18, e16, e9, e10, e14, c3, c, w1, w2, h_, go_sem, Int.reduceTMod, Int.reduceTDiv, Int.reduceDiv, Int.reduceMod, Int.reduceAdd, Int.reduceSub, Int.reduceMul, Int.reduceNeg, Int.reducePow, Int.reduceEq, ↓reduceIte, Nat.reduceEqDiff, Nat.reduceAdd, Nat.reduceMul, Nat.reduceLeDiff, Nat.reduceSub, Nat.reduceLT, Int.reduceToNat, Int.reduceLT, Int.reduceLE, reduceCtorEq]))
          refine hx _ ?_ ?_ ?_ ?_ ?_ ?_ ?_ ?_
          · simp only [hqe, go_sem, Int.reduceTMod, Int.reduceTDiv, Int.reduceDiv, Int.reduceMod, Int.reduceAdd, Int.reduceSub, Int.reduceMul, Int.reduceNeg, Int.reducePow, Int.reduceEq, ↓reduceIte, Nat.reduceEqDiff, Nat.reduceAdd, Nat.reduceMul, Nat.reduceLeDiff, Nat.reduceSub, Nat.reduceLT, Int.reduceToNat, Int.reduceLT, Int.reduceLE, reduceCtorEq]
          all_goals simp only [e9, e10, e14, go_sem, Int.reduceTMod, Int.reduceTDiv, Int.reduceDiv, Int.reduceMod, Int.reduceAdd, Int.reduceSub, Int.reduceMul, Int.reduceNeg, Int.reducePow, Int.reduceEq, ↓reduceIte, Nat.reduceEqDiff, Nat.reduceAdd, Nat.reduceMul, Nat.reduceLeDiff, Nat.reduceSub, Nat.reduceLT, Int.reduceToNat, Int.reduceLT, Int.reduceLE, reduceCtorEq]
        · have c4 := c1.resolve_left c3
          rw [XK_loop]
          try simp only [l57_1, r57_0, r57_1, r57_2, r57_3, r57_4, r57_5, r57_6, r57_7, r57_8, r57_9, r57_10, r57_11, r57_12, r57_13, r57_14, r57_15, r57_16, r57_17, r57_18, r57_19, r57_20, r57_21, r57_22, r57_23, r57_24, r57_25, r57_26, r57_27, r57_28, c57, F57, e18, e16, e9, e10, e14, c3, c4, c, w1, w2, wq, wr, go_sem, Int.reduceTMod, Int.reduceTDiv, Int.reduceDiv, Int.reduceMod, Int.reduceAdd, Int.reduceSub, Int.reduceMul, Int.reduceNeg, Int.reducePow, Int.reduceEq, ↓reduceIte, Nat.reduceEqDiff, Nat.reduceAdd, Nat.reduceMul, Nat.reduceLeDiff, Nat.reduceSub, Nat.reduceLT, Int.reduceToNat, Int.reduceLT, Int.reduceLE, reduceCtorEq]
          repeat' ((first | refine FK_split (fun h_ => ?_) (fun h_ => ?_) | refine GK_split (fun h_ => ?_) (fun h_ => ?_) | refine ite_both (fun h_ => ?_) (fun h_ => ?_)) <;> (try simp only [decide_eq_true_eq, decide_eq_false_iff_not, Bool.not_true, Bool.not_false, Bool.not_eq_true', Bool.not_eq_false', Bool.not_eq_eq_eq_not, Decidable.not_not] at h_) <;> (try simp only [l57_1, r57_0, r57_1, r57_2, r57_3, r57_4, r57_5, r57_6, r57_7, r57_8, r57_9, r57_10, r57_11, r57_12, r57_13, r57_14, r57_15, r57_16, r57_17, r57_18, r57_19, r57_20, r57_21, r57_22, r57_23, r57_24, r57_25, r57_26, r57_27, r57_28, c57, F57, e18, e16, e9, e10, e14, c3, c4, c, w1, w2, wq, wr, h_, go_sem, Int.reduceTMod, Int.reduceTDiv, Int.reduceDiv, Int.reduceMod, Int.reduceAdd, Int.reduceSub, Int.reduceMul, Int.reduceNeg, Int.reducePow, Int.reduceEq, ↓reduceIte, Nat.reduceEqDiff, Nat.reduceAdd, Nat.reduceMul, Nat.reduceLeDiff, Nat.reduceSub, Nat.reduceLT, Int.reduceToNat, Int.reduceLT, Int.reduceLE, reduceCtorEq]))
          refine hx _ ?_ ?_ ?_ ?_ ?_ ?_ ?_ ?_
          · simp only [hqe, go_sem, Int.reduceTMod, Int.reduceTDiv, Int.reduceDiv, Int.reduceMod, Int.reduceAdd, Int.reduceSub, Int.reduceMul, Int.reduceNeg, Int.reducePow, Int.reduceEq, ↓reduceIte, Nat.reduceEqDiff, Nat.reduceAdd, Nat.reduceMul, Nat.reduceLeDiff, Nat.reduceSub, Nat.reduceLT, Int.reduceToNat, Int.reduceLT, Int.reduceLE, reduceCtorEq]
          all_goals simp only [e9, e10, e14, go_sem, Int.reduceTMod, Int.reduceTDiv, Int.reduceDiv, Int.reduceMod, Int.reduceAdd, Int.reduceSub, Int.reduceMul, Int.reduceNeg, Int.reducePow, Int.reduceEq, ↓reduceIte, Nat.reduceEqDiff, Nat.reduceAdd, Nat.reduceMul, Nat.reduceLeDiff, Nat.reduceSub, Nat.reduceLT, Int.reduceToNat, Int.reduceLT, Int.reduceLE, reduceCtorEq]
      · have go : ∀ e' : Nat → Reg, e' 18 = RU (q - 1) → e' 16 = RU (r + y1) → e' 2 = e 2 → e' 8 = e 8 → e' 9 = e 9 → e' 10 = e 10 → e' 15 = e 15 → e' 14 = e 14 → e' 17 = e 17 → XK TA (.loop l57_1) ⟨e', m, N⟩ (Kt.blk 2 K) := by
          intro e' k18 k16 k2 k8 k9 k10 k15 k14 k17
          refine ih (q - 1) (r + y1) e' e1 (by omega) (by omega) (by omega) (by omega) (by omega) hless k18 k16 (by rw [k9]; exact e9) (by rw [k10]; exact e10) (by rw [k14]; exact e14) ?_
          intro e2 j18 j2 j8 j9 j10 j15 j14 j17
          exact hx e2 j18 (by rw [j2, k2]) (by rw [j8, k8]) (by rw [j9, k9]) (by rw [j10, k10]) (by rw [j15, k15]) (by rw [j14, k14]) (by rw [j17, k17])
        by_cases c3 : 4294967296 ≤ q
        · rw [XK_loop]
          try simp only [l57_1, r57_0, r57_1, r57_2, r57_3, r57_4, r57_5, r57_6, r57_7, r57_8, r57_9, r57_10, r57_11, r57_12, r57_13, r57_14, r57_15, r57_16, r57_17, r57_18, r57_19, r57_20, r57_21, r57_22, r57_23, r57_24, r57_25, r57_26, r57_27, r57_28, c57, F57, e18, e16, e9, e10, e14, c3, c, w1, w2, go_sem, Int.reduceTMod, Int.reduceTDiv, Int.reduceDiv, Int.reduceMod, Int.reduceAdd, Int.reduceSub, Int.reduceMul, Int.reduceNeg, Int.reducePow, Int.reduceEq, ↓reduceIte, Nat.reduceEqDiff, Nat.reduceAdd, Nat.reduceMul, Nat.reduceLeDiff, Nat.reduceSub, Nat.reduceLT, Int.reduceToNat, Int.reduceLT, Int.reduceLE, reduceCtorEq]
          repeat' ((first | refine FK_split (fun h_ => ?_) (fun h_ => ?_) | refine GK_split (fun h_ => ?_) (fun h_ => ?_) | refine ite_both (fun h_ => ?_) (fun h_ => ?_)) <;> (try simp only [decide_eq_true_eq, decide_eq_false_iff_not, Bool.not_true, Bool.not_false, Bool.not_eq_true', Bool.not_eq_false', Bool.not_eq_eq_eq_not, Decidable.not_not] at h_) <;> (try simp only [l57_1, r57_0, r57_1, r57_2, r57_3, r57_4, r57_5, r57_6, r57_7, r57_8, r57_9, r57_10, r57_11, r57_12, r57_13, r57_14, r57_15, r57_16, r57_17, r57_18, r57_19, r57_20, r57_21, r57_22, r57_23, r57_24, r57_25, r57_26, r57_27, r57_28, c57, F57, e18, e16, e9, e10, e14, c3, c, w1, w2, h_, go_sem, Int.reduceTMod, Int.reduceTDiv, Int.reduceDiv, Int.reduceMod, Int.reduceAdd, Int.reduceSub, Int.reduceMul, Int.reduceNeg, Int.reducePow, Int.reduceEq, ↓reduceIte, Nat.reduceEqDiff, Nat.reduceAdd, Nat.reduceMul, Nat.reduceLeDiff, Nat.reduceSub, Nat.reduceLT, Int.reduceToNat, Int.reduceLT, Int.reduceLE, reduceCtorEq]))
          refine go _ ?_ ?_ ?_ ?_ ?_ ?_ ?_ ?_ ?_
          all_goals simp only [e9, e10, e14, go_sem, Int.reduceTMod, Int.reduceTDiv, Int.reduceDiv, Int.reduceMod, Int.reduceAdd, Int.reduceSub, Int.reduceMul, Int.reduceNeg, Int.reducePow, Int.reduceEq, ↓reduceIte, Nat.reduceEqDiff, Nat.reduceAdd, Nat.reduceMul, Nat.reduceLeDiff, Nat.reduceSub, Nat.reduceLT, Int.reduceToNat, Int.reduceLT, Int.reduceLE, reduceCtorEq]
        · have c4 := c1.resolve_left c3
          rw [XK_loop]
          try simp only [l57_1, r57_0, r57_1, r57_2, r57_3, r57_4, r57_5, r57_6, r57_7, r57_8, r57_9, r57_10, r57_11, r57_12, r57_13, r57_14, r57_15, r57_16, r57_17, r57_18, r57_19, r57_20, r57_21, r57_22, r57_23, r57_24, r57_25, r57_26, r57_27, r57_28, c57, F57, e18, e16, e9, e10, e14, c3, c4, c, w1, w2, wq, wr, go_sem, Int.reduceTMod, Int.reduceTDiv, Int.reduceDiv, Int.reduceMod, Int.reduceAdd, Int.reduceSub, Int.reduceMul, Int.reduceNeg, Int.reducePow, Int.reduceEq, ↓reduceIte, Nat.reduceEqDiff, Nat.reduceAdd, Nat.reduceMul, Nat.reduceLeDiff, Nat.reduceSub, Nat.reduceLT, Int.reduceToNat, Int.reduceLT, Int.reduceLE, reduceCtorEq]
          repeat' ((first | refine FK_split (fun h_ => ?_) (fun h_ => ?_) | refine GK_split (fun h_ => ?_) (fun h_ => ?_) | refine ite_both (fun h_ => ?_) (fun h_ => ?_)) <;> (try simp only [decide_eq_true_eq, decide_eq_false_iff_not, Bool.not_true, Bool.not_false, Bool.not_eq_true', Bool.not_eq_false', Bool.not_eq_eq_eq_not, Decidable.not_not] at h_) <;> (try simp only [l57_1, r57_0, r57_1, r57_2, r57_3, r57_4, r57_5, r57_6, r57_7, r57_8, r57_9, r57_10, r57_11, r57_12, r57_13, r57_14, r57_15, r57_16, r57_17, r57_18, r57_19, r57_20, r57_21, r57_22, r57_23, r57_24, r57_25, r57_26, r57_27, r57_28, c57, F57, e18, e16, e9, e10, e14, c3, c4, c, w1, w2, wq, wr, h_, go_sem, Int.reduceTMod, Int.reduceTDiv, Int.reduceDiv, Int.reduceMod, Int.reduceAdd, Int.reduceSub, Int.reduceMul, Int.reduceNeg, Int.reducePow, Int.reduceEq, ↓reduceIte, Nat.reduceEqDiff, Nat.reduceAdd, Nat.reduceMul, Nat.reduceLeDiff, Nat.reduceSub, Nat.reduceLT, Int.reduceToNat, Int.reduceLT, Int.reduceLE, reduceCtorEq]))
          refine go _ ?_ ?_ ?_ ?_ ?_ ?_ ?_ ?_ ?_
          all_goals simp only [e9, e10, e14, go_sem, Int.reduceTMod, Int.reduceTDiv, Int.reduceDiv, Int.reduceMod, Int.reduceAdd, Int.reduceSub, Int.reduceMul, Int.reduceNeg, Int.reducePow, Int.reduceEq, ↓reduceIte, Nat.reduceEqDiff, Nat.reduceAdd, Nat.reduceMul, Nat.reduceLeDiff, Nat.reduceSub, Nat.reduceLT, Int.reduceToNat, Int.reduceLT, Int.reduceLE, reduceCtorEq]
    · have c3 : ¬ 4294967296 ≤ q := fun h => c1 (Or.inl h)
      have c4 : ¬ 4294967296 * r + u < q * y0 := fun h => c1 (Or.inr h)
      have hge := digit_enough hY hYp hq (u := u) (by omega)
      have hqe : q = (U * 4294967296 + u) / Y := by omega
      rw [XK_loop]
      try simp only [l57_1, r57_0, r57_1, r57_2, r57_3, r57_4, r57_5, r57_6, r57_7, r57_8, r57_9, r57_10, r57_11, r57_12, r57_13, r57_14, r57_15, r57_16, r57_17, r57_18, r57_19, r57_20, r57_21, r57_22, r57_23, r57_24, r57_25, r57_26, r57_27, r57_28, c57, F57, e18, e16, e9, e10, e14, c3, c4, wq, wr, go_sem, Int.reduceTMod, Int.reduceTDiv, Int.reduceDiv, Int.reduceMod, Int.reduceAdd, Int.reduceSub, Int.reduceMul, Int.reduceNeg, Int.reducePow, Int.reduceEq, ↓reduceIte, Nat.reduceEqDiff, Nat.reduceAdd, Nat.reduceMul, Nat.reduceLeDiff, Nat.reduceSub, Nat.reduceLT, Int.reduceToNat, Int.reduceLT, Int.reduceLE, reduceCtorEq]
      repeat' ((first | refine FK_split (fun h_ => ?_) (fun h_ => ?_) | refine GK_split (fun h_ => ?_) (fun h_ => ?_) | refine ite_both (fun h_ => ?_) (fun h_ => ?_)) <;> (try simp only [decide_eq_true_eq, decide_eq_false_iff_not, Bool.not_true, Bool.not_false, Bool.not_eq_true', Bool.not_eq_false', Bool.not_eq_eq_eq_not, Decidable.not_not] at h_) <;> (try simp only [l57_1, r57_0, r57_1, r57_2, r57_3, r57_4, r57_5, r57_6, r57_7, r57_8, r57_9, r57_10, r57_11, r57_12, r57_13, r57_14, r57_15, r57_16, r57_17, r57_18, r57_19, r57_20, r57_21, r57_22, r57_23, r57_24, r57_25, r57_26, r57_27, r57_28, c57, F57, e18, e16, e9, e10, e14, c3, c4, wq, wr, h_, go_sem, Int.reduceTMod, Int.reduceTDiv, Int.reduceDiv, Int.reduceMod, Int.reduceAdd, Int.reduceSub, Int.reduceMul, Int.reduceNeg, Int.reducePow, Int.reduceEq, ↓reduceIte, Nat.reduceEqDiff, Nat.reduceAdd, Nat.reduceMul, Nat.reduceLeDiff, Nat.reduceSub, Nat.reduceLT, Int.reduceToNat, Int.reduceLT, Int.reduceLE, reduceCtorEq]))
      refine hx _ ?_ ?_ ?_ ?_ ?_ ?_ ?_ ?_
      · simp only [e18, hqe, go_sem, Int.reduceTMod, Int.reduceTDiv, Int.reduceDiv, Int.reduceMod, Int.reduceAdd, Int.reduceSub, Int.reduceMul, Int.reduceNeg, Int.reducePow, Int.reduceEq, ↓reduceIte, Nat.reduceEqDiff, Nat.reduceAdd, Nat.reduceMul, Nat.reduceLeDiff, Nat.reduceSub, Nat.reduceLT, Int.reduceToNat, Int.reduceLT, Int.reduceLE, reduceCtorEq]
      all_goals simp only [e9, e10, e14, go_sem, Int.reduceTMod, Int.reduceTDiv, Int.reduceDiv, Int.reduceMod, Int.reduceAdd, Int.reduceSub, Int.reduceMul, Int.reduceNeg, Int.reducePow, Int.reduceEq, ↓reduceIte, Nat.reduceEqDiff, Nat.reduceAdd, Nat.reduceMul, Nat.reduceLeDiff, Nat.reduceSub, Nat.reduceLT, Int.reduceToNat, Int.reduceLT, Int.reduceLE, reduceCtorEq]

theorem v_Div64W {h l y : Int} (hh : 0 < h) (hy : h < y) (hyb : y < 18446744073709551616) (hl0 : 0 ≤ l) (hl1 : l < 18446744073709551616) (m : Mem) (n : Nat) :
    callF TA 57 [RU h, RU l, RU y] m n = some (.tup [RU ((h * 18446744073709551616 + l) / y), RU ((h * 18446744073709551616 + l) % y)]) := by
  refine callF_of (Fn_ofK (fn := F57) rfl (by simp [F57]) ?_)
  obtain ⟨s, s1, s2, s3, s4⟩ := v_LZ (x := y) (by omega) hyb
  have pS : (0 : Int) < 2 ^ s := Int.pow_pos (by decide)
  have pT : (0 : Int) < 2 ^ (64 - s) := Int.pow_pos (by decide)
  have pw : (2 : Int) ^ s * 2 ^ (64 - s) = 18446744073709551616 := by rw [← Int.pow_add, show s + (64 - s) = 64 by omega]; decide
  have z0 : (y = 0) = False := eq_false (by omega)
  have z1 : (y ≤ h) = False := eq_false (by omega)
  have z2 : (h = 0) = False := eq_false (by omega)
  have ws : (s : Int) % 18446744073709551616 = s := by omega
  have ws2 : (64 - (s : Int)) % 18446744073709551616 = ((64 - s : Nat) : Int) := by omega
  have g0 : (0 ≤ (s : Int)) = True := eq_true (by omega)
  have g1 : (0 ≤ ((64 - s : Nat) : Int)) = True := eq_true (by omega)
  have mn1 : min s 64 = s := by omega
  have mn2 : min (64 - s) 64 = 64 - s := by omega
  -- the parts of what is divided, moved to the top
  have eY : y * 2 ^ s % 18446744073709551616 = y * 2 ^ s := Int.emod_eq_of_lt (by omega) s3
  have eU : Go.bits .or .u64 (h * 2 ^ s % 18446744073709551616) (l / 2 ^ (64 - s)) = h * 2 ^ s + l / 2 ^ (64 - s) := by
    have b1 : h * 2 ^ s < 18446744073709551616 := Int.lt_trans (Int.mul_lt_mul_of_pos_right hy pS) s3
    have b0 : 0 ≤ h * 2 ^ s := Int.mul_nonneg (by omega) (by omega)
    rw [Int.emod_eq_of_lt b0 b1]
    have pw2 : (2 : Int) ^ 64 = 18446744073709551616 := by decide
    have l1 : l / 2 ^ (64 - s) < 2 ^ s := Int.ediv_lt_of_lt_mul pT (by rw [pw]; exact hl1)
    have l0 : 0 ≤ l / 2 ^ (64 - s) := Int.ediv_nonneg hl0 (by omega)
    have l2 : (2 : Int) ^ s ≤ 18446744073709551616 := by
      have := Int.mul_le_mul_of_nonneg_left (show (1 : Int) ≤ 2 ^ (64 - s) by omega) (show (0 : Int) ≤ 2 ^ s by omega)
      rw [pw] at this
      omega
    exact bits_join .u64 64 (by decide) wraps_u64 s _ _ b0 (Int.mul_emod_left _ _) (by omega) l0 l1 (by omega)
  obtain ⟨Y, dY⟩ : ∃ Y : Int, Y = y * 2 ^ s := ⟨_, rfl⟩
  obtain ⟨U, dU⟩ : ∃ U : Int, U = h * 2 ^ s + l / 2 ^ (64 - s) := ⟨_, rfl⟩
  obtain ⟨L, dL⟩ : ∃ L : Int, L = l * 2 ^ s % 18446744073709551616 := ⟨_, rfl⟩
  rw [← dY] at eY s2 s3
  rw [← dU] at eU
  have hL0 : 0 ≤ L := by omega
  have hL1 : L < 18446744073709551616 := by omega
  have aY := and_low32 Y (by omega) (by omega)
  have aL := and_low32 L hL0 hL1
  -- what the parts come to
  have eN : U * 18446744073709551616 + L = (h * 18446744073709551616 + l) * 2 ^ s := by
    have d1 := Int.mul_ediv_add_emod l (2 ^ (64 - s))
    have d2 : l * 2 ^ s = 18446744073709551616 * (l / 2 ^ (64 - s)) + l % 2 ^ (64 - s) * 2 ^ s := by
      have : l * 2 ^ s = (2 ^ (64 - s) * (l / 2 ^ (64 - s)) + l % 2 ^ (64 - s)) * 2 ^ s := by rw [d1]
      rw [this, ← pw]; grind
    have d3 : l % 2 ^ (64 - s) * 2 ^ s < 18446744073709551616 := by
      rw [← pw, Int.mul_comm (2 ^ s)]
      exact Int.mul_lt_mul_of_pos_right (Int.emod_lt_of_pos _ pT) pS
    have d4 : 0 ≤ l % 2 ^ (64 - s) * 2 ^ s := Int.mul_nonneg (Int.emod_nonneg _ (by omega)) (by omega)
    have e3 : (h * 18446744073709551616 + l) * 2 ^ s = 18446744073709551616 * (h * 2 ^ s) + l * 2 ^ s := by grind
    rw [dU, dL, e3]
    omega
  have hU0 : 0 ≤ U := by rw [dU]; exact Int.add_nonneg (Int.mul_nonneg (by omega) (by omega)) (Int.ediv_nonneg hl0 (by omega))
  have hU1 : U < Y := by
    have : (h * 18446744073709551616 + l) * 2 ^ s < (y * 18446744073709551616) * 2 ^ s := Int.mul_lt_mul_of_pos_right (by omega) pS
    rw [← eN, Int.mul_right_comm, ← dY] at this
    omega
  obtain ⟨y1, dy1⟩ : ∃ y1 : Int, y1 = Y / 4294967296 := ⟨_, rfl⟩
  obtain ⟨y0, dy0⟩ : ∃ y0 : Int, y0 = Y % 4294967296 := ⟨_, rfl⟩
  obtain ⟨u1, du1⟩ : ∃ u1 : Int, u1 = L / 4294967296 := ⟨_, rfl⟩
  obtain ⟨u0, du0⟩ : ∃ u0 : Int, u0 = L % 4294967296 := ⟨_, rfl⟩
  rw [← dy0] at aY
  rw [← du0] at aL
  have hYe : Y = y1 * 4294967296 + y0 := by omega
  have y1z : (y1 = 0) = False := eq_false (by omega)
  have digit : ∀ V u : Int, 0 ≤ V → V < Y → 0 ≤ u → u < 4294967296 → V.tdiv y1 % 18446744073709551616 = V / y1 ∧ (V - V / y1 * y1 % 18446744073709551616) % 18446744073709551616 = V % y1 ∧ V / y1 * y1 + V % y1 = V ∧ (0 ≤ V % y1 ∧ V % y1 < 4294967296 ∧ 4294967296 - V % y1 ≤ (3 : Nat) * 2147483648) ∧ 0 ≤ V / y1 ∧ V / y1 ≤ 4294967297 ∧ (V * 4294967296 + u) / Y ≤ V / y1 := by
    intro V u v0 v1 hu0 hu1
    have a1 := Int.mul_ediv_add_emod V y1
    have a2 := Int.emod_nonneg V (show y1 ≠ 0 by omega)
    have a3 := Int.emod_lt_of_pos V (show 0 < y1 by omega)
    obtain ⟨f1, f2, f3⟩ := first_digit hYe (by omega) (by omega) (by omega) v0 v1 u hu0 hu1
    rw [Int.mul_comm y1] at a1
    refine ⟨?_, ?_, a1, ⟨a2, by omega, by omega⟩, f1, f2, f3⟩
    · rw [Int.tdiv_eq_ediv_of_nonneg v0]; omega
    · generalize V / y1 * y1 = P at *
      omega
  obtain ⟨q1, q2, q3, ⟨q4, q5, q6⟩, q7, q8, q9⟩ := digit U u1 hU0 hU1 (by omega) (by omega)
  -- what is left behind the first digit
  obtain ⟨Q, dQ⟩ : ∃ Q : Int, Q = (U * 4294967296 + u1) / Y := ⟨_, rfl⟩
  obtain ⟨R, dR⟩ : ∃ R : Int, R = (U * 4294967296 + u1) % Y := ⟨_, rfl⟩
  have hD := Int.mul_ediv_add_emod (U * 4294967296 + u1) Y
  have hR0 := Int.emod_nonneg (U * 4294967296 + u1) (show Y ≠ 0 by omega)
  have hR1 := Int.emod_lt_of_pos (U * 4294967296 + u1) (show 0 < Y by omega)
  have hQ0 : 0 ≤ (U * 4294967296 + u1) / Y := Int.ediv_nonneg (by omega) (by omega)
  have hQ1 : (U * 4294967296 + u1) / Y < 4294967296 := Int.ediv_lt_of_lt_mul (by omega) (by omega)
  rw [← dQ, ← dR] at hD
  rw [← dQ] at hQ0 hQ1
  rw [← dR] at hR0 hR1
  have w21 : ((U * 4294967296 % 18446744073709551616 + u1) % 18446744073709551616 - Q * Y % 18446744073709551616) % 18446744073709551616 = R := by
    rw [Int.mul_comm Y] at hD
    generalize Q * Y = P at *
    omega
  obtain ⟨t1, t2, t3, ⟨t4, t5, t6⟩, t7, t8, t9⟩ := digit R u0 hR0 hR1 (by omega) (by omega)
  obtain ⟨Q2, dQ2⟩ : ∃ Q2 : Int, Q2 = (R * 4294967296 + u0) / Y := ⟨_, rfl⟩
  have hD2 := Int.mul_ediv_add_emod (R * 4294967296 + u0) Y
  have hS0 := Int.emod_nonneg (R * 4294967296 + u0) (show Y ≠ 0 by omega)
  have hS1 := Int.emod_lt_of_pos (R * 4294967296 + u0) (show 0 < Y by omega)
  have hP0 : 0 ≤ (R * 4294967296 + u0) / Y := Int.ediv_nonneg (by omega) (by omega)
  have hP1 : (R * 4294967296 + u0) / Y < 4294967296 := Int.ediv_lt_of_lt_mul (by omega) (by omega)
  obtain ⟨S, dS⟩ : ∃ S : Int, S = (R * 4294967296 + u0) % Y := ⟨_, rfl⟩
  rw [← dQ2, ← dS] at hD2
  rw [← dQ2] at hP0 hP1
  rw [← dS] at hS0 hS1
  have key : U * 18446744073709551616 + L = R * 4294967296 + u0 + Y * (Q * 4294967296) := by
    have : Y * (Q * 4294967296) = (Y * Q) * 4294967296 := by rw [Int.mul_assoc]
    omega
  have fin1 : (Q * 4294967296 % 18446744073709551616 + Q2) % 18446744073709551616 = (h * 18446744073709551616 + l) / y := by
    have : (U * 18446744073709551616 + L) / Y = (h * 18446744073709551616 + l) / y := by rw [eN, dY, Int.mul_ediv_mul_of_pos_left _ _ pS]
    rw [← this, key, Int.add_mul_ediv_left _ _ (by omega), ← dQ2]
    omega
  have fin2 : ((R * 4294967296 % 18446744073709551616 + u0) % 18446744073709551616 - Q2 * Y % 18446744073709551616) % 18446744073709551616 / 2 ^ s = (h * 18446744073709551616 + l) % y := by
    have e1 : ((R * 4294967296 % 18446744073709551616 + u0) % 18446744073709551616 - Q2 * Y % 18446744073709551616) % 18446744073709551616 = S := by
      rw [Int.mul_comm Y] at hD2
      generalize Q2 * Y = P at *
      omega
    have e2 : S = (U * 18446744073709551616 + L) % Y := by rw [key, Int.add_mul_emod_self_left, dS]
    rw [e1, e2, eN, dY, Int.mul_comm _ (2 ^ s), Int.mul_comm y (2 ^ s), Int.mul_emod_mul_of_pos _ _ pS, Int.mul_ediv_cancel_left _ (by omega)]
  try simp only [r57_0, r57_1, r57_2, r57_3, r57_4, r57_5, r57_6, r57_7, r57_8, r57_9, r57_10, r57_11, r57_12, r57_13, r57_14, r57_15, r57_16, r57_17, r57_18, r57_19, r57_20, r57_21, r57_22, r57_23, r57_24, r57_25, r57_26, r57_27, r57_28, c57, F57, z0, z1, z2, s4, ws, ws2, g0, g1, Int.toNat_natCast, mn1, mn2, ← dY, eY, eU, ← dL, aY, aL, ← dy1, ← du1, y1z, q1, q2, go_sem, Int.reduceTMod, Int.reduceTDiv, Int.reduceDiv, Int.reduceMod, Int.reduceAdd, Int.reduceSub, Int.reduceMul, Int.reduceNeg, Int.reducePow, Int.reduceEq, ↓reduceIte, Nat.reduceEqDiff, Nat.reduceAdd, Nat.reduceMul, Nat.reduceLeDiff, Nat.reduceSub, Nat.reduceLT, Int.reduceToNat, Int.reduceLT, Int.reduceLE, reduceCtorEq]
  repeat' ((first | refine FK_split (fun h_ => ?_) (fun h_ => ?_) | refine GK_split (fun h_ => ?_) (fun h_ => ?_) | refine ite_both (fun h_ => ?_) (fun h_ => ?_)) <;> (try simp only [decide_eq_true_eq, decide_eq_false_iff_not, Bool.not_true, Bool.not_false, Bool.not_eq_true', Bool.not_eq_false', Bool.not_eq_eq_eq_not, Decidable.not_not] at h_) <;> (try simp only [r57_0, r57_1, r57_2, r57_3, r57_4, r57_5, r57_6, r57_7, r57_8, r57_9, r57_10, r57_11, r57_12, r57_13, r57_14, r57_15, r57_16, r57_17, r57_18, r57_19, r57_20, r57_21, r57_22, r57_23, r57_24, r57_25, r57_26, r57_27, r57_28, c57, F57, z0, z1, z2, s4, ws, ws2, g0, g1, Int.toNat_natCast, mn1, mn2, ← dY, eY, eU, ← dL, aY, aL, ← dy1, ← du1, y1z, q1, q2, h_, go_sem, Int.reduceTMod, Int.reduceTDiv, Int.reduceDiv, Int.reduceMod, Int.reduceAdd, Int.reduceSub, Int.reduceMul, Int.reduceNeg, Int.reducePow, Int.reduceEq, ↓reduceIte, Nat.reduceEqDiff, Nat.reduceAdd, Nat.reduceMul, Nat.reduceLeDiff, Nat.reduceSub, Nat.reduceLT, Int.reduceToNat, Int.reduceLT, Int.reduceLE, reduceCtorEq]))
  refine dloop0 hYe (by omega) (by omega) (by omega) (by omega) (show 0 ≤ u1 by omega) (by omega) hU0 hU1 _ 3 (U / y1) (U % y1) _ q3 q4 q5 q6 q7 q8 q9 ?_ ?_ ?_ ?_ ?_ ?_
  · simp only [go_sem, Int.reduceTMod, Int.reduceTDiv, Int.reduceDiv, Int.reduceMod, Int.reduceAdd, Int.reduceSub, Int.reduceMul, Int.reduceNeg, Int.reducePow, Int.reduceEq, ↓reduceIte, Nat.reduceEqDiff, Nat.reduceAdd, Nat.reduceMul, Nat.reduceLeDiff, Nat.reduceSub, Nat.reduceLT, Int.reduceToNat, Int.reduceLT, Int.reduceLE, reduceCtorEq]
  · simp only [go_sem, Int.reduceTMod, Int.reduceTDiv, Int.reduceDiv, Int.reduceMod, Int.reduceAdd, Int.reduceSub, Int.reduceMul, Int.reduceNeg, Int.reducePow, Int.reduceEq, ↓reduceIte, Nat.reduceEqDiff, Nat.reduceAdd, Nat.reduceMul, Nat.reduceLeDiff, Nat.reduceSub, Nat.reduceLT, Int.reduceToNat, Int.reduceLT, Int.reduceLE, reduceCtorEq]
  · simp only [go_sem, Int.reduceTMod, Int.reduceTDiv, Int.reduceDiv, Int.reduceMod, Int.reduceAdd, Int.reduceSub, Int.reduceMul, Int.reduceNeg, Int.reducePow, Int.reduceEq, ↓reduceIte, Nat.reduceEqDiff, Nat.reduceAdd, Nat.reduceMul, Nat.reduceLeDiff, Nat.reduceSub, Nat.reduceLT, Int.reduceToNat, Int.reduceLT, Int.reduceLE, reduceCtorEq]
  · simp only [go_sem, Int.reduceTMod, Int.reduceTDiv, Int.reduceDiv, Int.reduceMod, Int.reduceAdd, Int.reduceSub, Int.reduceMul, Int.reduceNeg, Int.reducePow, Int.reduceEq, ↓reduceIte, Nat.reduceEqDiff, Nat.reduceAdd, Nat.reduceMul, Nat.reduceLeDiff, Nat.reduceSub, Nat.reduceLT, Int.reduceToNat, Int.reduceLT, Int.reduceLE, reduceCtorEq]
  · simp only [go_sem, Int.reduceTMod, Int.reduceTDiv, Int.reduceDiv, Int.reduceMod, Int.reduceAdd, Int.reduceSub, Int.reduceMul, Int.reduceNeg, Int.reducePow, Int.reduceEq, ↓reduceIte, Nat.reduceEqDiff, Nat.reduceAdd, Nat.reduceMul, Nat.reduceLeDiff, Nat.reduceSub, Nat.reduceLT, Int.reduceToNat, Int.reduceLT, Int.reduceLE, reduceCtorEq]
  intro e1 k15 k2 k8 k9 k10 k11 k13 k14
  replace k2 : e1 2 = RU Y := by
    rw [k2]
    simp only [go_sem, Int.reduceTMod, Int.reduceTDiv, Int.reduceDiv, Int.reduceMod, Int.reduceAdd, Int.reduceSub, Int.reduceMul, Int.reduceNeg, Int.reducePow, Int.reduceEq, ↓reduceIte, Nat.reduceEqDiff, Nat.reduceAdd, Nat.reduceMul, Nat.reduceLeDiff, Nat.reduceSub, Nat.reduceLT, Int.reduceToNat, Int.reduceLT, Int.reduceLE, reduceCtorEq]
  replace k8 : e1 8 = RU s := by
    rw [k8]
    simp only [go_sem, Int.reduceTMod, Int.reduceTDiv, Int.reduceDiv, Int.reduceMod, Int.reduceAdd, Int.reduceSub, Int.reduceMul, Int.reduceNeg, Int.reducePow, Int.reduceEq, ↓reduceIte, Nat.reduceEqDiff, Nat.reduceAdd, Nat.reduceMul, Nat.reduceLeDiff, Nat.reduceSub, Nat.reduceLT, Int.reduceToNat, Int.reduceLT, Int.reduceLE, reduceCtorEq]
  replace k9 : e1 9 = RU y1 := by
    rw [k9]
    simp only [go_sem, Int.reduceTMod, Int.reduceTDiv, Int.reduceDiv, Int.reduceMod, Int.reduceAdd, Int.reduceSub, Int.reduceMul, Int.reduceNeg, Int.reducePow, Int.reduceEq, ↓reduceIte, Nat.reduceEqDiff, Nat.reduceAdd, Nat.reduceMul, Nat.reduceLeDiff, Nat.reduceSub, Nat.reduceLT, Int.reduceToNat, Int.reduceLT, Int.reduceLE, reduceCtorEq]
  replace k10 : e1 10 = RU y0 := by
    rw [k10]
    simp only [go_sem, Int.reduceTMod, Int.reduceTDiv, Int.reduceDiv, Int.reduceMod, Int.reduceAdd, Int.reduceSub, Int.reduceMul, Int.reduceNeg, Int.reducePow, Int.reduceEq, ↓reduceIte, Nat.reduceEqDiff, Nat.reduceAdd, Nat.reduceMul, Nat.reduceLeDiff, Nat.reduceSub, Nat.reduceLT, Int.reduceToNat, Int.reduceLT, Int.reduceLE, reduceCtorEq]
  replace k11 : e1 11 = RU U := by
    rw [k11]
    simp only [go_sem, Int.reduceTMod, Int.reduceTDiv, Int.reduceDiv, Int.reduceMod, Int.reduceAdd, Int.reduceSub, Int.reduceMul, Int.reduceNeg, Int.reducePow, Int.reduceEq, ↓reduceIte, Nat.reduceEqDiff, Nat.reduceAdd, Nat.reduceMul, Nat.reduceLeDiff, Nat.reduceSub, Nat.reduceLT, Int.reduceToNat, Int.reduceLT, Int.reduceLE, reduceCtorEq]
  replace k13 : e1 13 = RU u1 := by
    rw [k13]
    simp only [go_sem, Int.reduceTMod, Int.reduceTDiv, Int.reduceDiv, Int.reduceMod, Int.reduceAdd, Int.reduceSub, Int.reduceMul, Int.reduceNeg, Int.reducePow, Int.reduceEq, ↓reduceIte, Nat.reduceEqDiff, Nat.reduceAdd, Nat.reduceMul, Nat.reduceLeDiff, Nat.reduceSub, Nat.reduceLT, Int.reduceToNat, Int.reduceLT, Int.reduceLE, reduceCtorEq]
  replace k14 : e1 14 = RU u0 := by
    rw [k14]
    simp only [go_sem, Int.reduceTMod, Int.reduceTDiv, Int.reduceDiv, Int.reduceMod, Int.reduceAdd, Int.reduceSub, Int.reduceMul, Int.reduceNeg, Int.reducePow, Int.reduceEq, ↓reduceIte, Nat.reduceEqDiff, Nat.reduceAdd, Nat.reduceMul, Nat.reduceLeDiff, Nat.reduceSub, Nat.reduceLT, Int.reduceToNat, Int.reduceLT, Int.reduceLE, reduceCtorEq]
  rw [← dQ] at k15
  try simp only [r57_0, r57_1, r57_2, r57_3, r57_4, r57_5, r57_6, r57_7, r57_8, r57_9, r57_10, r57_11, r57_12, r57_13, r57_14, r57_15, r57_16, r57_17, r57_18, r57_19, r57_20, r57_21, r57_22, r57_23, r57_24, r57_25, r57_26, r57_27, r57_28, c57, F57, k15, k2, k8, k9, k10, k11, k13, k14, w21, y1z, t1, t2, go_sem, Int.reduceTMod, Int.reduceTDiv, Int.reduceDiv, Int.reduceMod, Int.reduceAdd, Int.reduceSub, Int.reduceMul, Int.reduceNeg, Int.reducePow, Int.reduceEq, ↓reduceIte, Nat.reduceEqDiff, Nat.reduceAdd, Nat.reduceMul, Nat.reduceLeDiff, Nat.reduceSub, Nat.reduceLT, Int.reduceToNat, Int.reduceLT, Int.reduceLE, reduceCtorEq]
  repeat' ((first | refine FK_split (fun h_ => ?_) (fun h_ => ?_) | refine GK_split (fun h_ => ?_) (fun h_ => ?_) | refine ite_both (fun h_ => ?_) (fun h_ => ?_)) <;> (try simp only [decide_eq_true_eq, decide_eq_false_iff_not, Bool.not_true, Bool.not_false, Bool.not_eq_true', Bool.not_eq_false', Bool.not_eq_eq_eq_not, Decidable.not_not] at h_) <;> (try simp only [r57_0, r57_1, r57_2, r57_3, r57_4, r57_5, r57_6, r57_7, r57_8, r57_9, r57_10, r57_11, r57_12, r57_13, r57_14, r57_15, r57_16, r57_17, r57_18, r57_19, r57_20, r57_21, r57_22, r57_23, r57_24, r57_25, r57_26, r57_27, r57_28, c57, F57, k15, k2, k8, k9, k10, k11, k13, k14, w21, y1z, t1, t2, h_, go_sem, Int.reduceTMod, Int.reduceTDiv, Int.reduceDiv, Int.reduceMod, Int.reduceAdd, Int.reduceSub, Int.reduceMul, Int.reduceNeg, Int.reducePow, Int.reduceEq, ↓reduceIte, Nat.reduceEqDiff, Nat.reduceAdd, Nat.reduceMul, Nat.reduceLeDiff, Nat.reduceSub, Nat.reduceLT, Int.reduceToNat, Int.reduceLT, Int.reduceLE, reduceCtorEq]))
  refine dloop1 hYe (by omega) (by omega) (by omega) (by omega) (show 0 ≤ u0 by omega) (by omega) hR0 hR1 _ 3 (R / y1) (R % y1) _ t3 t4 t5 t6 t7 t8 t9 ?_ ?_ ?_ ?_ ?_ ?_
  · simp only [go_sem, Int.reduceTMod, Int.reduceTDiv, Int.reduceDiv, Int.reduceMod, Int.reduceAdd, Int.reduceSub, Int.reduceMul, Int.reduceNeg, Int.reducePow, Int.reduceEq, ↓reduceIte, Nat.reduceEqDiff, Nat.reduceAdd, Nat.reduceMul, Nat.reduceLeDiff, Nat.reduceSub, Nat.reduceLT, Int.reduceToNat, Int.reduceLT, Int.reduceLE, reduceCtorEq]
  · simp only [go_sem, Int.reduceTMod, Int.reduceTDiv, Int.reduceDiv, Int.reduceMod, Int.reduceAdd, Int.reduceSub, Int.reduceMul, Int.reduceNeg, Int.reducePow, Int.reduceEq, ↓reduceIte, Nat.reduceEqDiff, Nat.reduceAdd, Nat.reduceMul, Nat.reduceLeDiff, Nat.reduceSub, Nat.reduceLT, Int.reduceToNat, Int.reduceLT, Int.reduceLE, reduceCtorEq]
  · simp only [k9, go_sem, Int.reduceTMod, Int.reduceTDiv, Int.reduceDiv, Int.reduceMod, Int.reduceAdd, Int.reduceSub, Int.reduceMul, Int.reduceNeg, Int.reducePow, Int.reduceEq, ↓reduceIte, Nat.reduceEqDiff, Nat.reduceAdd, Nat.reduceMul, Nat.reduceLeDiff, Nat.reduceSub, Nat.reduceLT, Int.reduceToNat, Int.reduceLT, Int.reduceLE, reduceCtorEq]
  · simp only [k10, go_sem, Int.reduceTMod, Int.reduceTDiv, Int.reduceDiv, Int.reduceMod, Int.reduceAdd, Int.reduceSub, Int.reduceMul, Int.reduceNeg, Int.reducePow, Int.reduceEq, ↓reduceIte, Nat.reduceEqDiff, Nat.reduceAdd, Nat.reduceMul, Nat.reduceLeDiff, Nat.reduceSub, Nat.reduceLT, Int.reduceToNat, Int.reduceLT, Int.reduceLE, reduceCtorEq]
  · simp only [k14, go_sem, Int.reduceTMod, Int.reduceTDiv, Int.reduceDiv, Int.reduceMod, Int.reduceAdd, Int.reduceSub, Int.reduceMul, Int.reduceNeg, Int.reducePow, Int.reduceEq, ↓reduceIte, Nat.reduceEqDiff, Nat.reduceAdd, Nat.reduceMul, Nat.reduceLeDiff, Nat.reduceSub, Nat.reduceLT, Int.reduceToNat, Int.reduceLT, Int.reduceLE, reduceCtorEq]
  intro e2 j18 j2 j8 j9 j10 j15 j14 j17
  replace j2 : e2 2 = RU Y := by
    rw [j2]
    simp only [k2, go_sem, Int.reduceTMod, Int.reduceTDiv, Int.reduceDiv, Int.reduceMod, Int.reduceAdd, Int.reduceSub, Int.reduceMul, Int.reduceNeg, Int.reducePow, Int.reduceEq, ↓reduceIte, Nat.reduceEqDiff, Nat.reduceAdd, Nat.reduceMul, Nat.reduceLeDiff, Nat.reduceSub, Nat.reduceLT, Int.reduceToNat, Int.reduceLT, Int.reduceLE, reduceCtorEq]
  replace j8 : e2 8 = RU s := by
    rw [j8]
    simp only [k8, go_sem, Int.reduceTMod, Int.reduceTDiv, Int.reduceDiv, Int.reduceMod, Int.reduceAdd, Int.reduceSub, Int.reduceMul, Int.reduceNeg, Int.reducePow, Int.reduceEq, ↓reduceIte, Nat.reduceEqDiff, Nat.reduceAdd, Nat.reduceMul, Nat.reduceLeDiff, Nat.reduceSub, Nat.reduceLT, Int.reduceToNat, Int.reduceLT, Int.reduceLE, reduceCtorEq]
  replace j9 : e2 9 = RU y1 := by
    rw [j9]
    simp only [k9, go_sem, Int.reduceTMod, Int.reduceTDiv, Int.reduceDiv, Int.reduceMod, Int.reduceAdd, Int.reduceSub, Int.reduceMul, Int.reduceNeg, Int.reducePow, Int.reduceEq, ↓reduceIte, Nat.reduceEqDiff, Nat.reduceAdd, Nat.reduceMul, Nat.reduceLeDiff, Nat.reduceSub, Nat.reduceLT, Int.reduceToNat, Int.reduceLT, Int.reduceLE, reduceCtorEq]
  replace j10 : e2 10 = RU y0 := by
    rw [j10]
    simp only [k10, go_sem, Int.reduceTMod, Int.reduceTDiv, Int.reduceDiv, Int.reduceMod, Int.reduceAdd, Int.reduceSub, Int.reduceMul, Int.reduceNeg, Int.reducePow, Int.reduceEq, ↓reduceIte, Nat.reduceEqDiff, Nat.reduceAdd, Nat.reduceMul, Nat.reduceLeDiff, Nat.reduceSub, Nat.reduceLT, Int.reduceToNat, Int.reduceLT, Int.reduceLE, reduceCtorEq]
  replace j15 : e2 15 = RU Q := by
    rw [j15]
    simp only [k15, go_sem, Int.reduceTMod, Int.reduceTDiv, Int.reduceDiv, Int.reduceMod, Int.reduceAdd, Int.reduceSub, Int.reduceMul, Int.reduceNeg, Int.reducePow, Int.reduceEq, ↓reduceIte, Nat.reduceEqDiff, Nat.reduceAdd, Nat.reduceMul, Nat.reduceLeDiff, Nat.reduceSub, Nat.reduceLT, Int.reduceToNat, Int.reduceLT, Int.reduceLE, reduceCtorEq]
  replace j14 : e2 14 = RU u0 := by
    rw [j14]
    simp only [k14, go_sem, Int.reduceTMod, Int.reduceTDiv, Int.reduceDiv, Int.reduceMod, Int.reduceAdd, Int.reduceSub, Int.reduceMul, Int.reduceNeg, Int.reducePow, Int.reduceEq, ↓reduceIte, Nat.reduceEqDiff, Nat.reduceAdd, Nat.reduceMul, Nat.reduceLeDiff, Nat.reduceSub, Nat.reduceLT, Int.reduceToNat, Int.reduceLT, Int.reduceLE, reduceCtorEq]
  replace j17 : e2 17 = RU R := by
    rw [j17]
    simp only [go_sem, Int.reduceTMod, Int.reduceTDiv, Int.reduceDiv, Int.reduceMod, Int.reduceAdd, Int.reduceSub, Int.reduceMul, Int.reduceNeg, Int.reducePow, Int.reduceEq, ↓reduceIte, Nat.reduceEqDiff, Nat.reduceAdd, Nat.reduceMul, Nat.reduceLeDiff, Nat.reduceSub, Nat.reduceLT, Int.reduceToNat, Int.reduceLT, Int.reduceLE, reduceCtorEq]
  rw [← dQ2] at j18
  try simp only [r57_0, r57_1, r57_2, r57_3, r57_4, r57_5, r57_6, r57_7, r57_8, r57_9, r57_10, r57_11, r57_12, r57_13, r57_14, r57_15, r57_16, r57_17, r57_18, r57_19, r57_20, r57_21, r57_22, r57_23, r57_24, r57_25, r57_26, r57_27, r57_28, c57, F57, j18, j2, j8, j9, j10, j15, j14, j17, g0, Int.toNat_natCast, mn1, fin1, fin2, go_sem, Int.reduceTMod, Int.reduceTDiv, Int.reduceDiv, Int.reduceMod, Int.reduceAdd, Int.reduceSub, Int.reduceMul, Int.reduceNeg, Int.reducePow, Int.reduceEq, ↓reduceIte, Nat.reduceEqDiff, Nat.reduceAdd, Nat.reduceMul, Nat.reduceLeDiff, Nat.reduceSub, Nat.reduceLT, Int.reduceToNat, Int.reduceLT, Int.reduceLE, reduceCtorEq]
  repeat' ((first | refine FK_split (fun h_ => ?_) (fun h_ => ?_) | refine GK_split (fun h_ => ?_) (fun h_ => ?_) | refine ite_both (fun h_ => ?_) (fun h_ => ?_)) <;> (try simp only [decide_eq_true_eq, decide_eq_false_iff_not, Bool.not_true, Bool.not_false, Bool.not_eq_true', Bool.not_eq_false', Bool.not_eq_eq_eq_not, Decidable.not_not] at h_) <;> (try simp only [r57_0, r57_1, r57_2, r57_3, r57_4, r57_5, r57_6, r57_7, r57_8, r57_9, r57_10, r57_11, r57_12, r57_13, r57_14, r57_15, r57_16, r57_17, r57_18, r57_19, r57_20, r57_21, r57_22, r57_23, r57_24, r57_25, r57_26, r57_27, r57_28, c57, F57, j18, j2, j8, j9, j10, j15, j14, j17, g0, Int.toNat_natCast, mn1, fin1, fin2, h_, go_sem, Int.reduceTMod, Int.reduceTDiv, Int.reduceDiv, Int.reduceMod, Int.reduceAdd, Int.reduceSub, Int.reduceMul, Int.reduceNeg, Int.reducePow, Int.reduceEq, ↓reduceIte, Nat.reduceEqDiff, Nat.reduceAdd, Nat.reduceMul, Nat.reduceLeDiff, Nat.reduceSub, Nat.reduceLT, Int.reduceToNat, Int.reduceLT, Int.reduceLE, reduceCtorEq]))

/- Package wide walked: products, order. Conditions: those that each theorem names. -/
open Go Go.Proofs Go.RowKit
set_option linter.unusedSimpArgs false
set_option linter.unusedVariables false

/-- A number of 128 bits. -/
abbrev wN (v : Int) : Reg := .agg [I (v / 18446744073709551616), U (v % 18446744073709551616)]

theorem v_Mul64 (x y : Int) (hx0 : 0 ≤ x) (hx : x < 18446744073709551616) (hy0 : 0 ≤ y) (hy : y < 18446744073709551616) (m : Mem) (n : Nat) :
    callF TA 55 [RU x, RU y] m n = some (.tup [RU (x * y / 18446744073709551616), RU (x * y % 18446744073709551616)]) := by
  refine callF_of (Fn_ofK (fn := F55) rfl (by simp [F55]) ?_)
  rw [← mul64_int x y hx0 hx hy0 hy]
  try simp only [r55_0, r55_1, r55_2, r55_3, r55_4, r55_5, r55_6, r55_7, r55_8, r55_9, r55_10, r55_11, c55, F55, go_sem, Int.reduceTMod, Int.reduceTDiv, Int.reduceDiv, Int.reduceMod, Int.reduceAdd, Int.reduceSub, Int.reduceMul, Int.reduceNeg, Int.reducePow, Int.reduceEq, ↓reduceIte, Nat.reduceEqDiff, Nat.reduceAdd, Nat.reduceMul, Nat.reduceLeDiff, Nat.reduceSub, Nat.reduceLT, Int.reduceToNat, Int.reduceLT, Int.reduceLE, reduceCtorEq]
  repeat' ((first | refine FK_split (fun h_ => ?_) (fun h_ => ?_) | refine GK_split (fun h_ => ?_) (fun h_ => ?_) | refine ite_both (fun h_ => ?_) (fun h_ => ?_)) <;> (try simp only [decide_eq_true_eq, decide_eq_false_iff_not, Bool.not_true, Bool.not_false, Bool.not_eq_true', Bool.not_eq_false', Bool.not_eq_eq_eq_not, Decidable.not_not] at h_) <;> (try simp only [r55_0, r55_1, r55_2, r55_3, r55_4, r55_5, r55_6, r55_7, r55_8, r55_9, r55_10, r55_11, c55, F55, h_, go_sem, Int.reduceTMod, Int.reduceTDiv, Int.reduceDiv, Int.reduceMod, Int.reduceAdd, Int.reduceSub, Int.reduceMul, Int.reduceNeg, Int.reducePow, Int.reduceEq, ↓reduceIte, Nat.reduceEqDiff, Nat.reduceAdd, Nat.reduceMul, Nat.reduceLeDiff, Nat.reduceSub, Nat.reduceLT, Int.reduceToNat, Int.reduceLT, Int.reduceLE, reduceCtorEq]))
theorem v_wMul (a b : Int) (ha : -9223372036854775808 ≤ a) (ha' : a ≤ 9223372036854775807) (hb : -9223372036854775808 ≤ b) (hb' : b ≤ 9223372036854775807) (m : Mem) (n : Nat) :
    callF TA 52 [RI a, RI b] m n = some (wN (a * b)) := by
  refine callF_of (Fn_ofK (fn := F52) rfl (by simp [F52]) ?_)
  obtain ⟨h1, h2⟩ := signed_mul a b ha ha' hb hb'
  have e := fun m n => v_Mul64 (a % 18446744073709551616) (b % 18446744073709551616) (by omega) (by omega) (by omega) (by omega) m n
  have key : ∀ z : Int, wrap64 (z % 18446744073709551616) = wrap64 z := by intro z; unfold wrap64; omega
  have key3 : ∀ z v : Int, wrap64 (z % 18446744073709551616 - v) = wrap64 (z - v) := by intro z v; unfold wrap64; omega
  have key2 : ∀ z v : Int, wrap64 ((z % 18446744073709551616 - v) % 18446744073709551616) = wrap64 (z - v) := by intro z v; unfold wrap64; omega
  by_cases c1 : a < 0 <;> by_cases c2 : b < 0 <;> simp only [c1, c2, if_true, if_false, Int.sub_zero] at h1
  all_goals simp only [r52_0, r52_1, r52_2, r52_3, r52_4, r52_5, r52_6, c52, F52, e, c1, c2, wrapI, key, key3, key2, h1, h2, go_sem, Int.reduceTMod, Int.reduceTDiv, Int.reduceDiv, Int.reduceMod, Int.reduceAdd, Int.reduceSub, Int.reduceMul, Int.reduceNeg, Int.reducePow, Int.reduceEq, ↓reduceIte, Nat.reduceEqDiff, Nat.reduceAdd, Nat.reduceMul, Nat.reduceLeDiff, Nat.reduceSub, Nat.reduceLT, Int.reduceToNat, Int.reduceLT, Int.reduceLE, reduceCtorEq]
theorem v_isNaN (a : Int) (m : Mem) (n : Nat) : callF TA 83 [RI a] m n = some (RB false) := by
  refine callF_of (Fn_ofK (fn := F83) rfl (by simp [F83]) ?_)
  try simp only [r83_0, r83_1, c83, F83, go_sem, Int.reduceTMod, Int.reduceTDiv, Int.reduceDiv, Int.reduceMod, Int.reduceAdd, Int.reduceSub, Int.reduceMul, Int.reduceNeg, Int.reducePow, Int.reduceEq, ↓reduceIte, Nat.reduceEqDiff, Nat.reduceAdd, Nat.reduceMul, Nat.reduceLeDiff, Nat.reduceSub, Nat.reduceLT, Int.reduceToNat, Int.reduceLT, Int.reduceLE, reduceCtorEq]
  repeat' ((first | refine FK_split (fun h_ => ?_) (fun h_ => ?_) | refine GK_split (fun h_ => ?_) (fun h_ => ?_) | refine ite_both (fun h_ => ?_) (fun h_ => ?_)) <;> (try simp only [decide_eq_true_eq, decide_eq_false_iff_not, Bool.not_true, Bool.not_false, Bool.not_eq_true', Bool.not_eq_false', Bool.not_eq_eq_eq_not, Decidable.not_not] at h_) <;> (try simp only [r83_0, r83_1, c83, F83, h_, go_sem, Int.reduceTMod, Int.reduceTDiv, Int.reduceDiv, Int.reduceMod, Int.reduceAdd, Int.reduceSub, Int.reduceMul, Int.reduceNeg, Int.reducePow, Int.reduceEq, ↓reduceIte, Nat.reduceEqDiff, Nat.reduceAdd, Nat.reduceMul, Nat.reduceLeDiff, Nat.reduceSub, Nat.reduceLT, Int.reduceToNat, Int.reduceLT, Int.reduceLE, reduceCtorEq]))
theorem v_isNaNu (a : Int) (m : Mem) (n : Nat) : callF TA 84 [RU a] m n = some (RB false) := by
  refine callF_of (Fn_ofK (fn := F84) rfl (by simp [F84]) ?_)
  try simp only [r84_0, r84_1, c84, F84, go_sem, Int.reduceTMod, Int.reduceTDiv, Int.reduceDiv, Int.reduceMod, Int.reduceAdd, Int.reduceSub, Int.reduceMul, Int.reduceNeg, Int.reducePow, Int.reduceEq, ↓reduceIte, Nat.reduceEqDiff, Nat.reduceAdd, Nat.reduceMul, Nat.reduceLeDiff, Nat.reduceSub, Nat.reduceLT, Int.reduceToNat, Int.reduceLT, Int.reduceLE, reduceCtorEq]
  repeat' ((first | refine FK_split (fun h_ => ?_) (fun h_ => ?_) | refine GK_split (fun h_ => ?_) (fun h_ => ?_) | refine ite_both (fun h_ => ?_) (fun h_ => ?_)) <;> (try simp only [decide_eq_true_eq, decide_eq_false_iff_not, Bool.not_true, Bool.not_false, Bool.not_eq_true', Bool.not_eq_false', Bool.not_eq_eq_eq_not, Decidable.not_not] at h_) <;> (try simp only [r84_0, r84_1, c84, F84, h_, go_sem, Int.reduceTMod, Int.reduceTDiv, Int.reduceDiv, Int.reduceMod, Int.reduceAdd, Int.reduceSub, Int.reduceMul, Int.reduceNeg, Int.reducePow, Int.reduceEq, ↓reduceIte, Nat.reduceEqDiff, Nat.reduceAdd, Nat.reduceMul, Nat.reduceLeDiff, Nat.reduceSub, Nat.reduceLT, Int.reduceToNat, Int.reduceLT, Int.reduceLE, reduceCtorEq]))
theorem sgn_sub (a b : Int) : sgn (a - b) = if a < b then -1 else if b < a then 1 else 0 := by unfold sgn; split <;> split <;> (try split) <;> omega
theorem v_Cmp (a b : Int) (m : Mem) (n : Nat) : callF TA 73 [RI a, RI b] m n = some (RI (sgn (a - b))) := by
  refine callF_of (Fn_ofK (fn := F73) rfl (by simp [F73]) ?_)
  rw [sgn_sub]
  try simp only [r73_0, r73_1, r73_2, r73_3, r73_4, r73_5, r73_6, r73_7, r73_8, r73_9, r73_10, r73_11, r73_12, r73_13, c73, F73, v_isNaN, go_sem, Int.reduceTMod, Int.reduceTDiv, Int.reduceDiv, Int.reduceMod, Int.reduceAdd, Int.reduceSub, Int.reduceMul, Int.reduceNeg, Int.reducePow, Int.reduceEq, ↓reduceIte, Nat.reduceEqDiff, Nat.reduceAdd, Nat.reduceMul, Nat.reduceLeDiff, Nat.reduceSub, Nat.reduceLT, Int.reduceToNat, Int.reduceLT, Int.reduceLE, reduceCtorEq]
  repeat' ((first | refine FK_split (fun h_ => ?_) (fun h_ => ?_) | refine GK_split (fun h_ => ?_) (fun h_ => ?_) | refine ite_both (fun h_ => ?_) (fun h_ => ?_)) <;> (try simp only [decide_eq_true_eq, decide_eq_false_iff_not, Bool.not_true, Bool.not_false, Bool.not_eq_true', Bool.not_eq_false', Bool.not_eq_eq_eq_not, Decidable.not_not] at h_) <;> (try simp only [r73_0, r73_1, r73_2, r73_3, r73_4, r73_5, r73_6, r73_7, r73_8, r73_9, r73_10, r73_11, r73_12, r73_13, c73, F73, v_isNaN, h_, go_sem, Int.reduceTMod, Int.reduceTDiv, Int.reduceDiv, Int.reduceMod, Int.reduceAdd, Int.reduceSub, Int.reduceMul, Int.reduceNeg, Int.reducePow, Int.reduceEq, ↓reduceIte, Nat.reduceEqDiff, Nat.reduceAdd, Nat.reduceMul, Nat.reduceLeDiff, Nat.reduceSub, Nat.reduceLT, Int.reduceToNat, Int.reduceLT, Int.reduceLE, reduceCtorEq]))
theorem v_Cmpu (a b : Int) (m : Mem) (n : Nat) : callF TA 74 [RU a, RU b] m n = some (RI (sgn (a - b))) := by
  refine callF_of (Fn_ofK (fn := F74) rfl (by simp [F74]) ?_)
  rw [sgn_sub]
  try simp only [r74_0, r74_1, r74_2, r74_3, r74_4, r74_5, r74_6, r74_7, r74_8, r74_9, r74_10, r74_11, r74_12, r74_13, c74, F74, v_isNaNu, go_sem, Int.reduceTMod, Int.reduceTDiv, Int.reduceDiv, Int.reduceMod, Int.reduceAdd, Int.reduceSub, Int.reduceMul, Int.reduceNeg, Int.reducePow, Int.reduceEq, ↓reduceIte, Nat.reduceEqDiff, Nat.reduceAdd, Nat.reduceMul, Nat.reduceLeDiff, Nat.reduceSub, Nat.reduceLT, Int.reduceToNat, Int.reduceLT, Int.reduceLE, reduceCtorEq]
  repeat' ((first | refine FK_split (fun h_ => ?_) (fun h_ => ?_) | refine GK_split (fun h_ => ?_) (fun h_ => ?_) | refine ite_both (fun h_ => ?_) (fun h_ => ?_)) <;> (try simp only [decide_eq_true_eq, decide_eq_false_iff_not, Bool.not_true, Bool.not_false, Bool.not_eq_true', Bool.not_eq_false', Bool.not_eq_eq_eq_not, Decidable.not_not] at h_) <;> (try simp only [r74_0, r74_1, r74_2, r74_3, r74_4, r74_5, r74_6, r74_7, r74_8, r74_9, r74_10, r74_11, r74_12, r74_13, c74, F74, v_isNaNu, h_, go_sem, Int.reduceTMod, Int.reduceTDiv, Int.reduceDiv, Int.reduceMod, Int.reduceAdd, Int.reduceSub, Int.reduceMul, Int.reduceNeg, Int.reducePow, Int.reduceEq, ↓reduceIte, Nat.reduceEqDiff, Nat.reduceAdd, Nat.reduceMul, Nat.reduceLeDiff, Nat.reduceSub, Nat.reduceLT, Int.reduceToNat, Int.reduceLT, Int.reduceLE, reduceCtorEq]))
theorem v_Or (a b : Int) (id : Nat) (m : Mem) (n : Nat) (hm : m id = some ⟨[I a, I b], false⟩) :
    callF TA 72 [.one (.sl id 0 2 (some 2) 1)] m n = some (RI (if a ≠ 0 then a else b)) := by
  refine callF_of (Fn_ofK (fn := F72) rfl (by simp [F72]) ?_)
  by_cases ha : a = 0 <;> by_cases hb : b = 0
  all_goals
    try simp only [r72_0, r72_1, r72_2, r72_3, r72_4, r72_5, r72_6, r72_7, r72_8, c72, F72, l72_0, XK_loop, hm, ha, hb, go_sem, Int.reduceTMod, Int.reduceTDiv, Int.reduceDiv, Int.reduceMod, Int.reduceAdd, Int.reduceSub, Int.reduceMul, Int.reduceNeg, Int.reducePow, Int.reduceEq, ↓reduceIte, Nat.reduceEqDiff, Nat.reduceAdd, Nat.reduceMul, Nat.reduceLeDiff, Nat.reduceSub, Nat.reduceLT, Int.reduceToNat, Int.reduceLT, Int.reduceLE, reduceCtorEq]
    repeat' ((first | refine FK_split (fun h_ => ?_) (fun h_ => ?_) | refine GK_split (fun h_ => ?_) (fun h_ => ?_) | refine ite_both (fun h_ => ?_) (fun h_ => ?_)) <;> (try simp only [decide_eq_true_eq, decide_eq_false_iff_not, Bool.not_true, Bool.not_false, Bool.not_eq_true', Bool.not_eq_false', Bool.not_eq_eq_eq_not, Decidable.not_not] at h_) <;> (try simp only [r72_0, r72_1, r72_2, r72_3, r72_4, r72_5, r72_6, r72_7, r72_8, c72, F72, l72_0, XK_loop, hm, ha, hb, h_, go_sem, Int.reduceTMod, Int.reduceTDiv, Int.reduceDiv, Int.reduceMod, Int.reduceAdd, Int.reduceSub, Int.reduceMul, Int.reduceNeg, Int.reducePow, Int.reduceEq, ↓reduceIte, Nat.reduceEqDiff, Nat.reduceAdd, Nat.reduceMul, Nat.reduceLeDiff, Nat.reduceSub, Nat.reduceLT, Int.reduceToNat, Int.reduceLT, Int.reduceLE, reduceCtorEq]))
/-- The order of two numbers of 128 bits. -/
def cmpN (h l h' l' : Int) : Int := if h < h' then -1 else if h' < h then 1 else sgn (l - l')
theorem v_NCmp (h l h' l' : Int) (m : Mem) (n : Nat) : callF TA 53 [.agg [I h, U l], .agg [I h', U l']] m n = some (RI (cmpN h l h' l')) := by
  refine callF_of (Fn_ofK (fn := F53) rfl (by simp [F53]) ?_)
  have e : (if sgn (h - h') ≠ 0 then sgn (h - h') else sgn (l - l')) = cmpN h l h' l' := by
    unfold cmpN
    simp only [sgn_sub]
    repeat' split
    all_goals omega
  rw [← e]
  try simp only [r53_0, r53_1, c53, F53, v_Cmp, v_Cmpu, v_Or (sgn (h - h')) (sgn (l - l')), go_sem, Int.reduceTMod, Int.reduceTDiv, Int.reduceDiv, Int.reduceMod, Int.reduceAdd, Int.reduceSub, Int.reduceMul, Int.reduceNeg, Int.reducePow, Int.reduceEq, ↓reduceIte, Nat.reduceEqDiff, Nat.reduceAdd, Nat.reduceMul, Nat.reduceLeDiff, Nat.reduceSub, Nat.reduceLT, Int.reduceToNat, Int.reduceLT, Int.reduceLE, reduceCtorEq]
  repeat' ((first | refine FK_split (fun h_ => ?_) (fun h_ => ?_) | refine GK_split (fun h_ => ?_) (fun h_ => ?_) | refine ite_both (fun h_ => ?_) (fun h_ => ?_)) <;> (try simp only [decide_eq_true_eq, decide_eq_false_iff_not, Bool.not_true, Bool.not_false, Bool.not_eq_true', Bool.not_eq_false', Bool.not_eq_eq_eq_not, Decidable.not_not] at h_) <;> (try simp only [r53_0, r53_1, c53, F53, v_Cmp, v_Cmpu, v_Or (sgn (h - h')) (sgn (l - l')), h_, go_sem, Int.reduceTMod, Int.reduceTDiv, Int.reduceDiv, Int.reduceMod, Int.reduceAdd, Int.reduceSub, Int.reduceMul, Int.reduceNeg, Int.reducePow, Int.reduceEq, ↓reduceIte, Nat.reduceEqDiff, Nat.reduceAdd, Nat.reduceMul, Nat.reduceLeDiff, Nat.reduceSub, Nat.reduceLT, Int.reduceToNat, Int.reduceLT, Int.reduceLE, reduceCtorEq]))

/- Package wide walked: sums, signs, ints. Conditions: those that each theorem names. -/
open Go Go.Proofs
set_option linter.unusedSimpArgs false
set_option linter.unusedVariables false

/-- What a pair of words stands for. -/
abbrev vN (h l : Int) : Int := h * 18446744073709551616 + l
theorem v_Of (a : Int) (h0 : -9223372036854775808 ≤ a) (h1 : a ≤ 9223372036854775807) (m : Mem) (n : Nat) : callF TA 59 [RI a] m n = some (.agg [I (a / 9223372036854775808), U (a % 18446744073709551616)]) := by
  refine callF_of (Fn_ofK (fn := F59) rfl (by simp [F59]) ?_)
  try simp only [r59_0, r59_1, c59, F59, go_sem, Int.reduceTMod, Int.reduceTDiv, Int.reduceDiv, Int.reduceMod, Int.reduceAdd, Int.reduceSub, Int.reduceMul, Int.reduceNeg, Int.reducePow, Int.reduceEq, ↓reduceIte, Nat.reduceEqDiff, Nat.reduceAdd, Nat.reduceMul, Nat.reduceLeDiff, Nat.reduceSub, Nat.reduceLT, Int.reduceToNat, Int.reduceLT, Int.reduceLE, reduceCtorEq]
  repeat' ((first | refine FK_split (fun h_ => ?_) (fun h_ => ?_) | refine GK_split (fun h_ => ?_) (fun h_ => ?_) | refine ite_both (fun h_ => ?_) (fun h_ => ?_)) <;> (try simp only [decide_eq_true_eq, decide_eq_false_iff_not, Bool.not_true, Bool.not_false, Bool.not_eq_true', Bool.not_eq_false', Bool.not_eq_eq_eq_not, Decidable.not_not] at h_) <;> (try simp only [r59_0, r59_1, c59, F59, h_, go_sem, Int.reduceTMod, Int.reduceTDiv, Int.reduceDiv, Int.reduceMod, Int.reduceAdd, Int.reduceSub, Int.reduceMul, Int.reduceNeg, Int.reducePow, Int.reduceEq, ↓reduceIte, Nat.reduceEqDiff, Nat.reduceAdd, Nat.reduceMul, Nat.reduceLeDiff, Nat.reduceSub, Nat.reduceLT, Int.reduceToNat, Int.reduceLT, Int.reduceLE, reduceCtorEq]))
theorem wn_of (a : Int) (h0 : -9223372036854775808 ≤ a) (h1 : a ≤ 9223372036854775807) : a / 9223372036854775808 = a / 18446744073709551616 := by omega
/-- The sum's words. -/
def addH (h l h' l' : Int) : Int := IntKind.i64.wrap (h + h' + (l + l') / 18446744073709551616)
theorem v_wAdd (h l h' l' : Int) (h0 : 0 ≤ l) (h1 : l < 18446744073709551616) (h2 : 0 ≤ l') (h3 : l' < 18446744073709551616) (m : Mem) (n : Nat) :
    callF TA 58 [.agg [I h, U l], .agg [I h', U l']] m n = some (.agg [I (addH h l h' l'), U ((l + l') % 18446744073709551616)]) := by
  refine callF_of (Fn_ofK (fn := F58) rfl (by simp [F58]) ?_)
  have c0 : ((l + l') / 18446744073709551616 = 0 ∨ (l + l') / 18446744073709551616 = 1) = True := eq_true (by omega)
  have e : ∀ k, IntKind.i64.wrap ((h % 18446744073709551616 + h' % 18446744073709551616 + k) % 18446744073709551616) = IntKind.i64.wrap (h + h' + k) := by
    intro k; rw [wrapI, wrapI]; unfold Go.RowKit.wrap64; omega
  try simp only [r58_0, r58_1, r58_2, r58_3, c58, F58, h0, h1, h2, h3, c0, e, and_true, true_and, true_or, Int.le_refl, addH, Int.add_zero, go_sem, Int.reduceTMod, Int.reduceTDiv, Int.reduceDiv, Int.reduceMod, Int.reduceAdd, Int.reduceSub, Int.reduceMul, Int.reduceNeg, Int.reducePow, Int.reduceEq, ↓reduceIte, Nat.reduceEqDiff, Nat.reduceAdd, Nat.reduceMul, Nat.reduceLeDiff, Nat.reduceSub, Nat.reduceLT, Int.reduceToNat, Int.reduceLT, Int.reduceLE, reduceCtorEq]
  repeat' ((first | refine FK_split (fun h_ => ?_) (fun h_ => ?_) | refine GK_split (fun h_ => ?_) (fun h_ => ?_) | refine ite_both (fun h_ => ?_) (fun h_ => ?_)) <;> (try simp only [decide_eq_true_eq, decide_eq_false_iff_not, Bool.not_true, Bool.not_false, Bool.not_eq_true', Bool.not_eq_false', Bool.not_eq_eq_eq_not, Decidable.not_not] at h_) <;> (try simp only [r58_0, r58_1, r58_2, r58_3, c58, F58, h0, h1, h2, h3, c0, e, and_true, true_and, true_or, Int.le_refl, addH, Int.add_zero, h_, go_sem, Int.reduceTMod, Int.reduceTDiv, Int.reduceDiv, Int.reduceMod, Int.reduceAdd, Int.reduceSub, Int.reduceMul, Int.reduceNeg, Int.reducePow, Int.reduceEq, ↓reduceIte, Nat.reduceEqDiff, Nat.reduceAdd, Nat.reduceMul, Nat.reduceLeDiff, Nat.reduceSub, Nat.reduceLT, Int.reduceToNat, Int.reduceLT, Int.reduceLE, reduceCtorEq]))
theorem add_mod (h l h' l' : Int) : (vN (addH h l h' l') ((l + l') % 18446744073709551616) - (vN h l + vN h' l')) % 340282366920938463463374607431768211456 = 0 := by
  unfold addH vN
  rw [wrapI]
  unfold Go.RowKit.wrap64
  exact Int.emod_eq_zero_of_dvd ⟨-((h + h' + (l + l') / 18446744073709551616 + 9223372036854775808) / 18446744073709551616), by omega⟩
/-- The difference's words. -/
def subH (h l h' l' : Int) : Int := IntKind.i64.wrap (h - h' - if l < l' then 1 else 0)
theorem v_wSub (h l h' l' : Int) (h0 : 0 ≤ l) (h1 : l < 18446744073709551616) (h2 : 0 ≤ l') (h3 : l' < 18446744073709551616) (m : Mem) (n : Nat) :
    callF TA 77 [.agg [I h, U l], .agg [I h', U l']] m n = some (.agg [I (subH h l h' l'), U ((l - l') % 18446744073709551616)]) := by
  refine callF_of (Fn_ofK (fn := F77) rfl (by simp [F77]) ?_)
  have e : ∀ k, IntKind.i64.wrap ((h % 18446744073709551616 - h' % 18446744073709551616 - k) % 18446744073709551616) = IntKind.i64.wrap (h - h' - k) := by
    intro k; rw [wrapI, wrapI]; unfold Go.RowKit.wrap64; omega
  have e0 := e 0
  simp only [Int.sub_zero] at e0
  by_cases c : l < l'
  all_goals
    try simp only [r77_0, r77_1, r77_2, r77_3, c77, F77, e0, h0, h1, h2, h3, c, e, and_true, true_and, true_or, or_true, Int.le_refl, subH, Int.add_zero, Int.sub_zero, go_sem, Int.reduceTMod, Int.reduceTDiv, Int.reduceDiv, Int.reduceMod, Int.reduceAdd, Int.reduceSub, Int.reduceMul, Int.reduceNeg, Int.reducePow, Int.reduceEq, ↓reduceIte, Nat.reduceEqDiff, Nat.reduceAdd, Nat.reduceMul, Nat.reduceLeDiff, Nat.reduceSub, Nat.reduceLT, Int.reduceToNat, Int.reduceLT, Int.reduceLE, reduceCtorEq]
    repeat' ((first | refine FK_split (fun h_ => ?_) (fun h_ => ?_) | refine GK_split (fun h_ => ?_) (fun h_ => ?_) | refine ite_both (fun h_ => ?_) (fun h_ => ?_)) <;> (try simp only [decide_eq_true_eq, decide_eq_false_iff_not, Bool.not_true, Bool.not_false, Bool.not_eq_true', Bool.not_eq_false', Bool.not_eq_eq_eq_not, Decidable.not_not] at h_) <;> (try simp only [r77_0, r77_1, r77_2, r77_3, c77, F77, e0, h0, h1, h2, h3, c, e, and_true, true_and, true_or, or_true, Int.le_refl, subH, Int.add_zero, Int.sub_zero, h_, go_sem, Int.reduceTMod, Int.reduceTDiv, Int.reduceDiv, Int.reduceMod, Int.reduceAdd, Int.reduceSub, Int.reduceMul, Int.reduceNeg, Int.reducePow, Int.reduceEq, ↓reduceIte, Nat.reduceEqDiff, Nat.reduceAdd, Nat.reduceMul, Nat.reduceLeDiff, Nat.reduceSub, Nat.reduceLT, Int.reduceToNat, Int.reduceLT, Int.reduceLE, reduceCtorEq]))
theorem sub_mod (h l h' l' : Int) (h0 : 0 ≤ l) (h1 : l < 18446744073709551616) (h2 : 0 ≤ l') (h3 : l' < 18446744073709551616) : (vN (subH h l h' l') ((l - l') % 18446744073709551616) - (vN h l - vN h' l')) % 340282366920938463463374607431768211456 = 0 := by
  unfold subH vN
  rw [wrapI]
  unfold Go.RowKit.wrap64
  split
  · exact Int.emod_eq_zero_of_dvd ⟨-((h - h' - 1 + 9223372036854775808) / 18446744073709551616), by omega⟩
  · exact Int.emod_eq_zero_of_dvd ⟨-((h - h' - 0 + 9223372036854775808) / 18446744073709551616), by omega⟩
theorem v_wNeg (h l : Int) (h0 : 0 ≤ l) (h1 : l < 18446744073709551616) (m : Mem) (n : Nat) :
    callF TA 60 [.agg [I h, U l]] m n = some (.agg [I (subH 0 0 h l), U ((0 - l) % 18446744073709551616)]) := by
  refine callF_of (Fn_ofK (fn := F60) rfl (by simp [F60]) ?_)
  have e := v_wSub 0 0 h l (by omega) (by omega) h0 h1
  try simp only [r60_0, r60_1, c60, F60, e, go_sem, Int.reduceTMod, Int.reduceTDiv, Int.reduceDiv, Int.reduceMod, Int.reduceAdd, Int.reduceSub, Int.reduceMul, Int.reduceNeg, Int.reducePow, Int.reduceEq, ↓reduceIte, Nat.reduceEqDiff, Nat.reduceAdd, Nat.reduceMul, Nat.reduceLeDiff, Nat.reduceSub, Nat.reduceLT, Int.reduceToNat, Int.reduceLT, Int.reduceLE, reduceCtorEq]
  repeat' ((first | refine FK_split (fun h_ => ?_) (fun h_ => ?_) | refine GK_split (fun h_ => ?_) (fun h_ => ?_) | refine ite_both (fun h_ => ?_) (fun h_ => ?_)) <;> (try simp only [decide_eq_true_eq, decide_eq_false_iff_not, Bool.not_true, Bool.not_false, Bool.not_eq_true', Bool.not_eq_false', Bool.not_eq_eq_eq_not, Decidable.not_not] at h_) <;> (try simp only [r60_0, r60_1, c60, F60, e, h_, go_sem, Int.reduceTMod, Int.reduceTDiv, Int.reduceDiv, Int.reduceMod, Int.reduceAdd, Int.reduceSub, Int.reduceMul, Int.reduceNeg, Int.reducePow, Int.reduceEq, ↓reduceIte, Nat.reduceEqDiff, Nat.reduceAdd, Nat.reduceMul, Nat.reduceLeDiff, Nat.reduceSub, Nat.reduceLT, Int.reduceToNat, Int.reduceLT, Int.reduceLE, reduceCtorEq]))
theorem v_wInt (h l : Int) (h0 : 0 ≤ l) (h1 : l < 18446744073709551616) (m : Mem) (n : Nat) :
    callF TA 61 [.agg [I h, U l]] m n = some (if h = IntKind.i64.wrap l / 9223372036854775808 then .tup [RI (IntKind.i64.wrap l), RB true] else .tup [RI 0, RB false]) := by
  refine callF_of (Fn_ofK (fn := F61) rfl (by simp [F61]) ?_)
  obtain ⟨t, ht⟩ : ∃ t, t = IntKind.i64.wrap l := ⟨_, rfl⟩
  have hb : (-9223372036854775808 ≤ t ∧ t ≤ 9223372036854775807) ∧ t % 18446744073709551616 = l := by rw [ht, wrapI]; unfold Go.RowKit.wrap64; omega
  have o := v_Of t hb.1.1 hb.1.2
  rw [hb.2] at o
  by_cases c : h = t / 9223372036854775808
  · have c' : (h == t / 9223372036854775808) = true := by simpa using c
    rw [if_pos (by rw [← ht]; exact c)]
    try simp only [r61_0, r61_1, r61_2, r61_3, r61_4, c61, F61, ← ht, o, c', Bool.and_self, Bool.and_true, Bool.true_and, go_sem, Int.reduceTMod, Int.reduceTDiv, Int.reduceDiv, Int.reduceMod, Int.reduceAdd, Int.reduceSub, Int.reduceMul, Int.reduceNeg, Int.reducePow, Int.reduceEq, ↓reduceIte, Nat.reduceEqDiff, Nat.reduceAdd, Nat.reduceMul, Nat.reduceLeDiff, Nat.reduceSub, Nat.reduceLT, Int.reduceToNat, Int.reduceLT, Int.reduceLE, reduceCtorEq]
    repeat' ((first | refine FK_split (fun h_ => ?_) (fun h_ => ?_) | refine GK_split (fun h_ => ?_) (fun h_ => ?_) | refine ite_both (fun h_ => ?_) (fun h_ => ?_)) <;> (try simp only [decide_eq_true_eq, decide_eq_false_iff_not, Bool.not_true, Bool.not_false, Bool.not_eq_true', Bool.not_eq_false', Bool.not_eq_eq_eq_not, Decidable.not_not] at h_) <;> (try simp only [r61_0, r61_1, r61_2, r61_3, r61_4, c61, F61, ← ht, o, c', Bool.and_self, Bool.and_true, Bool.true_and, h_, go_sem, Int.reduceTMod, Int.reduceTDiv, Int.reduceDiv, Int.reduceMod, Int.reduceAdd, Int.reduceSub, Int.reduceMul, Int.reduceNeg, Int.reducePow, Int.reduceEq, ↓reduceIte, Nat.reduceEqDiff, Nat.reduceAdd, Nat.reduceMul, Nat.reduceLeDiff, Nat.reduceSub, Nat.reduceLT, Int.reduceToNat, Int.reduceLT, Int.reduceLE, reduceCtorEq]))
  · have c' : (h == t / 9223372036854775808) = false := by simpa using c
    rw [if_neg (by rw [← ht]; exact c)]
    try simp only [r61_0, r61_1, r61_2, r61_3, r61_4, c61, F61, ← ht, o, c', Bool.and_self, Bool.and_true, Bool.true_and, go_sem, Int.reduceTMod, Int.reduceTDiv, Int.reduceDiv, Int.reduceMod, Int.reduceAdd, Int.reduceSub, Int.reduceMul, Int.reduceNeg, Int.reducePow, Int.reduceEq, ↓reduceIte, Nat.reduceEqDiff, Nat.reduceAdd, Nat.reduceMul, Nat.reduceLeDiff, Nat.reduceSub, Nat.reduceLT, Int.reduceToNat, Int.reduceLT, Int.reduceLE, reduceCtorEq]
    repeat' ((first | refine FK_split (fun h_ => ?_) (fun h_ => ?_) | refine GK_split (fun h_ => ?_) (fun h_ => ?_) | refine ite_both (fun h_ => ?_) (fun h_ => ?_)) <;> (try simp only [decide_eq_true_eq, decide_eq_false_iff_not, Bool.not_true, Bool.not_false, Bool.not_eq_true', Bool.not_eq_false', Bool.not_eq_eq_eq_not, Decidable.not_not] at h_) <;> (try simp only [r61_0, r61_1, r61_2, r61_3, r61_4, c61, F61, ← ht, o, c', Bool.and_self, Bool.and_true, Bool.true_and, h_, go_sem, Int.reduceTMod, Int.reduceTDiv, Int.reduceDiv, Int.reduceMod, Int.reduceAdd, Int.reduceSub, Int.reduceMul, Int.reduceNeg, Int.reducePow, Int.reduceEq, ↓reduceIte, Nat.reduceEqDiff, Nat.reduceAdd, Nat.reduceMul, Nat.reduceLeDiff, Nat.reduceSub, Nat.reduceLT, Int.reduceToNat, Int.reduceLT, Int.reduceLE, reduceCtorEq]))

/- Plain numbers: floors. Conditions: those that each theorem names. -/
open Go Go.RowKit

theorem tdiv_tmod {X D : Int} (hD : 0 < D) : (0 ≤ X ∧ X.tdiv D = X / D ∧ X.tmod D = X % D) ∨ (X < 0 ∧ X.tmod D = 0 ∧ X.tdiv D = X / D) ∨ (X < 0 ∧ X.tmod D < 0 ∧ X.tdiv D = X / D + 1) := by
  rcases Int.lt_or_le X 0 with h | h
  · have e1 : X.tdiv D = -((-X) / D) := by
      have : X = -(-X) := by omega
      rw [this, Int.neg_tdiv, Int.tdiv_eq_ediv_of_nonneg (by omega)]
      simp
    have e2 := Int.mul_tdiv_add_tmod X D
    have e3 := Int.mul_ediv_add_emod (-X) D
    have e4 := Int.emod_nonneg (-X) (Int.ne_of_gt hD)
    have e5 := Int.emod_lt_of_pos (-X) hD
    have e6 := Int.mul_ediv_add_emod X D
    have e7 := Int.emod_nonneg X (Int.ne_of_gt hD)
    have e8 := Int.emod_lt_of_pos X hD
    rw [e1, Int.mul_neg] at e2
    rw [e1]
    generalize (-X) / D = q at *
    generalize (-X) % D = r at *
    by_cases c : r = 0
    · refine Or.inr (Or.inl ⟨h, by omega, ?_⟩)
      have h3 : X = D * (-q) := by rw [Int.mul_neg]; omega
      rw [h3, Int.mul_ediv_cancel_left _ (Int.ne_of_gt hD)]
    · refine Or.inr (Or.inr ⟨h, by omega, ?_⟩)
      have h3 : X = (D - r) + D * (-q - 1) := by rw [Int.mul_sub, Int.mul_neg]; omega
      rw [h3, Int.add_mul_ediv_left _ _ (Int.ne_of_gt hD), Int.ediv_eq_zero_of_lt (by omega) (by omega)]
      omega
  · exact Or.inl ⟨h, Int.tdiv_eq_ediv_of_nonneg h, Int.tmod_eq_emod_of_nonneg h⟩
theorem tdiv_floor {X D : Int} (hD : 0 < D) : (if X.tmod D < 0 then X.tdiv D - 1 else X.tdiv D) = X / D := by
  have := Int.emod_nonneg X (Int.ne_of_gt hD)
  rcases tdiv_tmod (X := X) hD with ⟨h1, h2, h3⟩ | ⟨h1, h2, h3⟩ | ⟨h1, h2, h3⟩
  · rw [if_neg (by omega), h2]
  · rw [if_neg (by omega), h3]
  · rw [if_pos h2, h3]; omega
theorem below_floor {X D : Int} (hD : 0 < D) : (if X < X.tdiv D * D then X.tdiv D - 1 else X.tdiv D) = X / D := by
  have e1 := Int.mul_ediv_add_emod X D
  have e2 := Int.emod_nonneg X (Int.ne_of_gt hD)
  have e3 := Int.emod_lt_of_pos X hD
  have e4 := Int.mul_tdiv_add_tmod X D
  rcases tdiv_tmod (X := X) hD with ⟨h1, h2, h3⟩ | ⟨h1, h2, h3⟩ | ⟨h1, h2, h3⟩
  · rw [h2, if_neg (by rw [Int.mul_comm]; omega)]
  · rw [h3, if_neg (by rw [Int.mul_comm]; omega)]
  · rw [if_pos (by rw [Int.mul_comm]; omega), h3]; omega
/-- A quotient, rounded. -/
def rnd (x d : Int) : Int := (2 * x + d) / (2 * d)
theorem rnd_eq {x d : Int} (hd : 0 < d) : rnd x d = if d - (x - x / d * d) ≤ x - x / d * d then x / d + 1 else x / d := by
  unfold rnd
  have e1 := Int.mul_ediv_add_emod x d
  have e2 := Int.emod_nonneg x (Int.ne_of_gt hd)
  have e3 := Int.emod_lt_of_pos x hd
  have e4 : x - x / d * d = x % d := by rw [Int.mul_comm]; omega
  rw [e4]
  generalize x % d = r at *
  have e5 : 2 * x + d = (2 * r + d) + 2 * d * (x / d) := by rw [Int.mul_assoc]; omega
  rw [e5, Int.add_mul_ediv_left _ _ (by omega)]
  split
  · have : (2 * r + d) / (2 * d) = 1 := by
      rw [show 2 * r + d = (2 * r - d) + 2 * d * 1 by omega, Int.add_mul_ediv_left _ _ (by omega), Int.ediv_eq_zero_of_lt (by omega) (by omega)]
      rfl
    omega
  · have : (2 * r + d) / (2 * d) = 0 := Int.ediv_eq_zero_of_lt (by omega) (by omega)
    omega
theorem rnd_le {x d b : Int} (hd : 0 < d) (h : x ≤ b * d) : rnd x d ≤ b := by
  unfold rnd
  have : (2 * x + d) / (2 * d) < b + 1 := Int.ediv_lt_of_lt_mul (by omega) (by rw [Int.add_mul, Int.one_mul, Int.mul_left_comm]; omega)
  omega
theorem rnd_ge {x d b : Int} (hd : 0 < d) (h : b * d ≤ x) : b ≤ rnd x d := by
  unfold rnd
  exact Int.le_ediv_of_mul_le (by omega) (by rw [Int.mul_left_comm]; omega)

/- Package wide walked: a quotient. Conditions: those that each theorem names. -/
open Go Go.Proofs
set_option linter.unusedSimpArgs false
set_option linter.unusedVariables false

theorem v_size (x : Int) (h0 : -9223372036854775808 ≤ x) (h1 : x ≤ 9223372036854775807) (m : Mem) (n : Nat) : callF TA 56 [RI x] m n = some (RU (if x < 0 then -x else x)) := by
  refine callF_of (Fn_ofK (fn := F56) rfl (by simp [F56]) ?_)
  by_cases c : x < 0
  · have e : (0 - x % 18446744073709551616) % 18446744073709551616 = -x := by omega
    try simp only [r56_0, r56_1, r56_2, r56_3, c56, F56, c, e, go_sem, Int.reduceTMod, Int.reduceTDiv, Int.reduceDiv, Int.reduceMod, Int.reduceAdd, Int.reduceSub, Int.reduceMul, Int.reduceNeg, Int.reducePow, Int.reduceEq, ↓reduceIte, Nat.reduceEqDiff, Nat.reduceAdd, Nat.reduceMul, Nat.reduceLeDiff, Nat.reduceSub, Nat.reduceLT, Int.reduceToNat, Int.reduceLT, Int.reduceLE, reduceCtorEq]
    repeat' ((first | refine FK_split (fun h_ => ?_) (fun h_ => ?_) | refine GK_split (fun h_ => ?_) (fun h_ => ?_) | refine ite_both (fun h_ => ?_) (fun h_ => ?_)) <;> (try simp only [decide_eq_true_eq, decide_eq_false_iff_not, Bool.not_true, Bool.not_false, Bool.not_eq_true', Bool.not_eq_false', Bool.not_eq_eq_eq_not, Decidable.not_not] at h_) <;> (try simp only [r56_0, r56_1, r56_2, r56_3, c56, F56, c, e, h_, go_sem, Int.reduceTMod, Int.reduceTDiv, Int.reduceDiv, Int.reduceMod, Int.reduceAdd, Int.reduceSub, Int.reduceMul, Int.reduceNeg, Int.reducePow, Int.reduceEq, ↓reduceIte, Nat.reduceEqDiff, Nat.reduceAdd, Nat.reduceMul, Nat.reduceLeDiff, Nat.reduceSub, Nat.reduceLT, Int.reduceToNat, Int.reduceLT, Int.reduceLE, reduceCtorEq]))
  · have e : x % 18446744073709551616 = x := by omega
    try simp only [r56_0, r56_1, r56_2, r56_3, c56, F56, c, e, go_sem, Int.reduceTMod, Int.reduceTDiv, Int.reduceDiv, Int.reduceMod, Int.reduceAdd, Int.reduceSub, Int.reduceMul, Int.reduceNeg, Int.reducePow, Int.reduceEq, ↓reduceIte, Nat.reduceEqDiff, Nat.reduceAdd, Nat.reduceMul, Nat.reduceLeDiff, Nat.reduceSub, Nat.reduceLT, Int.reduceToNat, Int.reduceLT, Int.reduceLE, reduceCtorEq]
    repeat' ((first | refine FK_split (fun h_ => ?_) (fun h_ => ?_) | refine GK_split (fun h_ => ?_) (fun h_ => ?_) | refine ite_both (fun h_ => ?_) (fun h_ => ?_)) <;> (try simp only [decide_eq_true_eq, decide_eq_false_iff_not, Bool.not_true, Bool.not_false, Bool.not_eq_true', Bool.not_eq_false', Bool.not_eq_eq_eq_not, Decidable.not_not] at h_) <;> (try simp only [r56_0, r56_1, r56_2, r56_3, c56, F56, c, e, h_, go_sem, Int.reduceTMod, Int.reduceTDiv, Int.reduceDiv, Int.reduceMod, Int.reduceAdd, Int.reduceSub, Int.reduceMul, Int.reduceNeg, Int.reducePow, Int.reduceEq, ↓reduceIte, Nat.reduceEqDiff, Nat.reduceAdd, Nat.reduceMul, Nat.reduceLeDiff, Nat.reduceSub, Nat.reduceLT, Int.reduceToNat, Int.reduceLT, Int.reduceLE, reduceCtorEq]))
theorem v_Div64 (lo y : Int) (h0 : 0 ≤ lo) (h1 : lo < 18446744073709551616) (hy : 0 < y) (m : Mem) (n : Nat) : callF TA 57 [RU 0, RU lo, RU y] m n = some (.tup [RU (lo / y), RU (lo % y)]) := by
  refine callF_of (Fn_ofK (fn := F57) rfl (by simp [F57]) ?_)
  have z : (y = 0) = False := eq_false (by omega)
  have z2 : (y ≤ 0) = False := eq_false (by omega)
  have e1 : lo.tdiv y = lo / y := Int.tdiv_eq_ediv_of_nonneg h0
  have e2 : lo.tmod y = lo % y := Int.tmod_eq_emod_of_nonneg h0
  have e3 : lo / y % 18446744073709551616 = lo / y := by
    have k1 := Int.ediv_le_self y h0
    have k2 := Int.ediv_nonneg h0 (Int.le_of_lt hy)
    omega
  try simp only [r57_0, r57_1, r57_2, r57_3, r57_4, r57_5, r57_6, r57_7, r57_8, r57_9, r57_10, r57_11, r57_12, r57_13, r57_14, r57_15, r57_16, r57_17, r57_18, r57_19, r57_20, r57_21, r57_22, r57_23, r57_24, r57_25, r57_26, r57_27, r57_28, c57, F57, z, z2, e1, e2, e3, go_sem, Int.reduceTMod, Int.reduceTDiv, Int.reduceDiv, Int.reduceMod, Int.reduceAdd, Int.reduceSub, Int.reduceMul, Int.reduceNeg, Int.reducePow, Int.reduceEq, ↓reduceIte, Nat.reduceEqDiff, Nat.reduceAdd, Nat.reduceMul, Nat.reduceLeDiff, Nat.reduceSub, Nat.reduceLT, Int.reduceToNat, Int.reduceLT, Int.reduceLE, reduceCtorEq]
  repeat' ((first | refine FK_split (fun h_ => ?_) (fun h_ => ?_) | refine GK_split (fun h_ => ?_) (fun h_ => ?_) | refine ite_both (fun h_ => ?_) (fun h_ => ?_)) <;> (try simp only [decide_eq_true_eq, decide_eq_false_iff_not, Bool.not_true, Bool.not_false, Bool.not_eq_true', Bool.not_eq_false', Bool.not_eq_eq_eq_not, Decidable.not_not] at h_) <;> (try simp only [r57_0, r57_1, r57_2, r57_3, r57_4, r57_5, r57_6, r57_7, r57_8, r57_9, r57_10, r57_11, r57_12, r57_13, r57_14, r57_15, r57_16, r57_17, r57_18, r57_19, r57_20, r57_21, r57_22, r57_23, r57_24, r57_25, r57_26, r57_27, r57_28, c57, F57, z, z2, e1, e2, e3, h_, go_sem, Int.reduceTMod, Int.reduceTDiv, Int.reduceDiv, Int.reduceMod, Int.reduceAdd, Int.reduceSub, Int.reduceMul, Int.reduceNeg, Int.reducePow, Int.reduceEq, ↓reduceIte, Nat.reduceEqDiff, Nat.reduceAdd, Nat.reduceMul, Nat.reduceLeDiff, Nat.reduceSub, Nat.reduceLT, Int.reduceToNat, Int.reduceLT, Int.reduceLE, reduceCtorEq]))
/-- One times b over d, rounded down (d above 0). -/
theorem v_MulDiv1 (b d : Int) (hb : -4611686018427387904 ≤ b ∧ b ≤ 4611686018427387904) (hd : 0 < d) (hd2 : d ≤ 4611686018427387904) (m : Mem) (n : Nat) :
    ∃ ex : Bool, callF TA 48 [RI 1, RI b, RI d] m n = some (.tup [RI (b / d), RB ex, RI 0]) := by
  obtain ⟨B, hB⟩ : ∃ B, B = (if b < 0 then -b else b) := ⟨_, rfl⟩
  have s1 := v_size 1 (by decide) (by decide)
  rw [if_neg (by decide)] at s1
  have s2 := v_size b (by omega) (by omega)
  rw [← hB] at s2
  have s3 := v_size d (by omega) (by omega)
  rw [if_neg (by omega)] at s3
  have hB0 : 0 ≤ B ∧ B ≤ 4611686018427387904 := by rw [hB]; split <;> omega
  have m1 := v_Mul64 1 B (by decide) (by decide) hB0.1 (by omega)
  rw [show 1 * B / 18446744073709551616 = 0 by omega, show 1 * B % 18446744073709551616 = B by omega] at m1
  have dv := v_Div64 B d hB0.1 (by omega) hd
  have q0 := Int.ediv_nonneg hB0.1 (Int.le_of_lt hd)
  have q1 := Int.ediv_le_self d hB0.1
  have r0 := Int.emod_nonneg B (Int.ne_of_gt hd)
  have r1 := Int.emod_lt_of_pos B hd
  have eB := Int.mul_ediv_add_emod B d
  have z : (d = 0) = False := eq_false (by omega)
  have z2 : (d ≤ 0) = False := eq_false (by omega)
  have z3 : (d < 0) = False := eq_false (by omega)
  have one := v_Of 1 (by decide) (by decide)
  have ints : ∀ x : Int, -4611686018427387905 ≤ x → x ≤ 4611686018427387905 → ∀ m n, callF TA 61 [.agg [I (x / 18446744073709551616), U (x % 18446744073709551616)]] m n = some (.tup [RI x, RB true]) := by
    intro x hx1 hx2 m n
    rw [v_wInt _ _ (by omega) (by omega)]
    have ew : IntKind.i64.wrap (x % 18446744073709551616) = x := by rw [wrapI]; unfold Go.RowKit.wrap64; omega
    rw [ew, if_pos (by omega)]
  generalize hq : B / d = q at *
  generalize hr : B % d = r at *
  by_cases c : b < 0
  · have hBb : B = -b := by rw [hB, if_pos c]
    by_cases c2 : 0 < r
    · have e : b / d = -(q + 1) := by
        have : b = (d - r) + d * (-(q + 1)) := by rw [Int.mul_neg, Int.mul_add]; omega
        rw [this, Int.add_mul_ediv_left _ _ (by omega), Int.ediv_eq_zero_of_lt (by omega) (by omega)]
        omega
      have ad := v_wAdd 0 q 0 1 q0 (by omega) (by decide) (by decide)
      have a1 : addH 0 q 0 1 = 0 := by
        unfold addH
        rw [show 0 + 0 + (q + 1) / 18446744073709551616 = 0 by omega]
        rfl
      rw [a1, show (q + 1) % 18446744073709551616 = q + 1 by omega] at ad
      have ng := v_wNeg 0 (q + 1) (by omega) (by omega)
      have n1 : subH 0 0 0 (q + 1) = b / d / 18446744073709551616 := by
        unfold subH
        rw [if_pos (by omega), e]
        have : IntKind.i64.wrap (0 - 0 - 1) = -1 := rfl
        rw [this]; omega
      have n2 : (0 - (q + 1)) % 18446744073709551616 = b / d % 18446744073709551616 := by rw [e]; omega
      rw [n1, n2] at ng
      have it := ints (b / d) (by omega) (by omega)
      refine ⟨decide (r = 0), callF_of (Fn_ofK (fn := F48) rfl (by simp [F48]) ?_)⟩
      try simp only [r48_0, r48_1, r48_2, r48_3, r48_4, r48_5, r48_6, r48_7, r48_8, r48_9, r48_10, r48_11, r48_12, r48_13, r48_14, r48_15, c48, F48, s1, s2, s3, m1, dv, z, z2, z3, c, c2, one, ad, ng, it, go_sem, Int.reduceTMod, Int.reduceTDiv, Int.reduceDiv, Int.reduceMod, Int.reduceAdd, Int.reduceSub, Int.reduceMul, Int.reduceNeg, Int.reducePow, Int.reduceEq, ↓reduceIte, Nat.reduceEqDiff, Nat.reduceAdd, Nat.reduceMul, Nat.reduceLeDiff, Nat.reduceSub, Nat.reduceLT, Int.reduceToNat, Int.reduceLT, Int.reduceLE, reduceCtorEq]
      repeat' ((first | refine FK_split (fun h_ => ?_) (fun h_ => ?_) | refine GK_split (fun h_ => ?_) (fun h_ => ?_) | refine ite_both (fun h_ => ?_) (fun h_ => ?_)) <;> (try simp only [decide_eq_true_eq, decide_eq_false_iff_not, Bool.not_true, Bool.not_false, Bool.not_eq_true', Bool.not_eq_false', Bool.not_eq_eq_eq_not, Decidable.not_not] at h_) <;> (try simp only [r48_0, r48_1, r48_2, r48_3, r48_4, r48_5, r48_6, r48_7, r48_8, r48_9, r48_10, r48_11, r48_12, r48_13, r48_14, r48_15, c48, F48, s1, s2, s3, m1, dv, z, z2, z3, c, c2, one, ad, ng, it, h_, go_sem, Int.reduceTMod, Int.reduceTDiv, Int.reduceDiv, Int.reduceMod, Int.reduceAdd, Int.reduceSub, Int.reduceMul, Int.reduceNeg, Int.reducePow, Int.reduceEq, ↓reduceIte, Nat.reduceEqDiff, Nat.reduceAdd, Nat.reduceMul, Nat.reduceLeDiff, Nat.reduceSub, Nat.reduceLT, Int.reduceToNat, Int.reduceLT, Int.reduceLE, reduceCtorEq]))
    · have hr0 : r = 0 := by omega
      have e : b / d = -q := by
        have : b = d * (-q) := by rw [Int.mul_neg]; omega
        rw [this, Int.mul_ediv_cancel_left _ (by omega)]
      have ng := v_wNeg 0 q q0 (by omega)
      have n1 : subH 0 0 0 q = b / d / 18446744073709551616 := by
        unfold subH
        rw [e]
        by_cases cq : 0 < q
        · rw [if_pos cq]
          have : IntKind.i64.wrap (0 - 0 - 1) = -1 := rfl
          rw [this]; omega
        · rw [if_neg cq]
          have : IntKind.i64.wrap (0 - 0 - 0) = 0 := rfl
          rw [this]; omega
      have n2 : (0 - q) % 18446744073709551616 = b / d % 18446744073709551616 := by rw [e]; omega
      rw [n1, n2] at ng
      have it := ints (b / d) (by omega) (by omega)
      refine ⟨decide (r = 0), callF_of (Fn_ofK (fn := F48) rfl (by simp [F48]) ?_)⟩
      try simp only [r48_0, r48_1, r48_2, r48_3, r48_4, r48_5, r48_6, r48_7, r48_8, r48_9, r48_10, r48_11, r48_12, r48_13, r48_14, r48_15, c48, F48, s1, s2, s3, m1, dv, z, z2, z3, c, c2, one, ng, it, go_sem, Int.reduceTMod, Int.reduceTDiv, Int.reduceDiv, Int.reduceMod, Int.reduceAdd, Int.reduceSub, Int.reduceMul, Int.reduceNeg, Int.reducePow, Int.reduceEq, ↓reduceIte, Nat.reduceEqDiff, Nat.reduceAdd, Nat.reduceMul, Nat.reduceLeDiff, Nat.reduceSub, Nat.reduceLT, Int.reduceToNat, Int.reduceLT, Int.reduceLE, reduceCtorEq]
      repeat' ((first | refine FK_split (fun h_ => ?_) (fun h_ => ?_) | refine GK_split (fun h_ => ?_) (fun h_ => ?_) | refine ite_both (fun h_ => ?_) (fun h_ => ?_)) <;> (try simp only [decide_eq_true_eq, decide_eq_false_iff_not, Bool.not_true, Bool.not_false, Bool.not_eq_true', Bool.not_eq_false', Bool.not_eq_eq_eq_not, Decidable.not_not] at h_) <;> (try simp only [r48_0, r48_1, r48_2, r48_3, r48_4, r48_5, r48_6, r48_7, r48_8, r48_9, r48_10, r48_11, r48_12, r48_13, r48_14, r48_15, c48, F48, s1, s2, s3, m1, dv, z, z2, z3, c, c2, one, ng, it, h_, go_sem, Int.reduceTMod, Int.reduceTDiv, Int.reduceDiv, Int.reduceMod, Int.reduceAdd, Int.reduceSub, Int.reduceMul, Int.reduceNeg, Int.reducePow, Int.reduceEq, ↓reduceIte, Nat.reduceEqDiff, Nat.reduceAdd, Nat.reduceMul, Nat.reduceLeDiff, Nat.reduceSub, Nat.reduceLT, Int.reduceToNat, Int.reduceLT, Int.reduceLE, reduceCtorEq]))
  · have hBb : B = b := by rw [hB, if_neg c]
    have e : b / d = q := by rw [← hq, hBb]
    have it := ints (b / d) (by omega) (by omega)
    rw [show b / d / 18446744073709551616 = 0 by omega, show b / d % 18446744073709551616 = q by omega] at it
    refine ⟨decide (r = 0), callF_of (Fn_ofK (fn := F48) rfl (by simp [F48]) ?_)⟩
    try simp only [r48_0, r48_1, r48_2, r48_3, r48_4, r48_5, r48_6, r48_7, r48_8, r48_9, r48_10, r48_11, r48_12, r48_13, r48_14, r48_15, c48, F48, s1, s2, s3, m1, dv, z, z2, z3, c, it, go_sem, Int.reduceTMod, Int.reduceTDiv, Int.reduceDiv, Int.reduceMod, Int.reduceAdd, Int.reduceSub, Int.reduceMul, Int.reduceNeg, Int.reducePow, Int.reduceEq, ↓reduceIte, Nat.reduceEqDiff, Nat.reduceAdd, Nat.reduceMul, Nat.reduceLeDiff, Nat.reduceSub, Nat.reduceLT, Int.reduceToNat, Int.reduceLT, Int.reduceLE, reduceCtorEq]
    repeat' ((first | refine FK_split (fun h_ => ?_) (fun h_ => ?_) | refine GK_split (fun h_ => ?_) (fun h_ => ?_) | refine ite_both (fun h_ => ?_) (fun h_ => ?_)) <;> (try simp only [decide_eq_true_eq, decide_eq_false_iff_not, Bool.not_true, Bool.not_false, Bool.not_eq_true', Bool.not_eq_false', Bool.not_eq_eq_eq_not, Decidable.not_not] at h_) <;> (try simp only [r48_0, r48_1, r48_2, r48_3, r48_4, r48_5, r48_6, r48_7, r48_8, r48_9, r48_10, r48_11, r48_12, r48_13, r48_14, r48_15, c48, F48, s1, s2, s3, m1, dv, z, z2, z3, c, it, h_, go_sem, Int.reduceTMod, Int.reduceTDiv, Int.reduceDiv, Int.reduceMod, Int.reduceAdd, Int.reduceSub, Int.reduceMul, Int.reduceNeg, Int.reducePow, Int.reduceEq, ↓reduceIte, Nat.reduceEqDiff, Nat.reduceAdd, Nat.reduceMul, Nat.reduceLeDiff, Nat.reduceSub, Nat.reduceLT, Int.reduceToNat, Int.reduceLT, Int.reduceLE, reduceCtorEq]))

end Go.Proofs.Ytkdbnmohpanpfaa.Sy
