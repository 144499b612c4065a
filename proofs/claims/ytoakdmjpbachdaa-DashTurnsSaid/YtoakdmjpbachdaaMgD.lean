import Derived.Test.YtoakdmjpbachdaaMgC
import Derived.RowKit
import Derived.Laws.Bits64
import Derived.Laws.BitsLemmas
import Derived.Laws.MathBits
import Derived.Lib.Mul64
/- An evaluator of a part of Go's operations over a memory of its own, part sixteen: words for walks by it. Conditions: those that each theorem names. -/
namespace Go.Proofs.Ytoakdmjpbachdaa.Sy
open Go
set_option linter.unusedVariables false
set_option linter.unusedSimpArgs false

/-- From the evaluator to the machine: a law that comes to true. -/
theorem law_calls {P : Program} {ng : Nat} {T : Nat → Option SFun} {mds : Nat → Nat → Mode} {clss : Nat → Nat → List (List Nat) × List (Nat × Nat)} (hmix : P.follows .mixedOrders = true)
    (hT : ∀ f sf, T f = some sf → ∃ fn, P.funcs[f]? = some fn ∧ slimF P ng (mds f) (clss f) fn = some sf) {f : Nat} {args : List Reg} {m : Mem} {n : Nat} (h : Fn T f args m n (fun r _ _ => r = .one (.sc (.bool true))))
    {ρ : Loc} {w : World} {vs : List Value} (hm : MRel ρ n w m) (hg : Glob ng ρ n) (hargs : RRels ρ n w args vs) (hown : ∀ id b, m id = some b → b.own = false) :
    Calls P f vs.toArray w (fun e w' => e = .returned (.bool true) ∧ Go.RowKit.Below w.heap.size w w') := by
  obtain ⟨k, r, m', n', h1, rfl⟩ := h
  refine (run_ok hmix hT k f args m n _ m' n' h1 ρ w vs hm hg hargs).2.mono fun e w' he => ?_
  obtain ⟨v, ρ', rfl, h2, h3⟩ := he
  have hv := sc_inv h3
  subst hv
  exact ⟨rfl, h2.fr.below (fun k hk => by obtain ⟨id, b, h4, h5, _⟩ := hk; rw [hown id b h4] at h5; cases h5)⟩

theorem noMem (ρ : Loc) (n : Nat) (w : World) : MRel ρ n w (fun _ => none) :=
  ⟨fun id b hb => (by cases hb), fun id b hb => (by cases hb), fun id b hb => (by cases hb), fun id b hb => (by cases hb), fun id b hb => (by cases hb)⟩

/-! ### numbers, Bools -/
abbrev I (n : Int) : Cell := .sc (.int .i64 n)
abbrev RI (n : Int) : Reg := .one (.sc (.int .i64 n))
abbrev RB (b : Bool) : Reg := .one (.sc (.bool b))
abbrev rnil : Reg := .one (.sc (.slice none 0 0))

theorem wr_eq {x : Int} (h0 : -9223372036854775808 ≤ x) (h1 : x ≤ 9223372036854775807) : IntKind.i64.wrap x = x := by
  simp [IntKind.wrap, IntKind.bits, IntKind.signed]; omega

section
variable {T : Nat → Option SFun} {d : Option Nat} {os : List SOper} {env : Nat → Reg} {Q : (Nat → Reg) → Mem → Nat → Prop}
theorem Then_some {r : Reg} {m : Mem} {n : Nat} : Then T d os env Q (some (r, m, n)) = R T os (putE env d r) m n Q := rfl
theorem Then_none : Then T d os env Q none = False := rfl
end

theorem upd_upd {α : Type} {f : Nat → α} {k : Nat} {x y : α} : upd (upd f k x) k y = upd f k y := by
  funext i
  unfold upd
  split <;> rfl
theorem unfrz_at {m m' : Mem} {n id : Nat} : unfrz m n m' id = if id < n then m id else m' id := rfl
theorem putE_some {env : Nat → Reg} {d : Nat} {r : Reg} : putE env (some d) r = upd env d r := rfl
theorem putE_none {env : Nat → Reg} {r : Reg} : putE env none r = env := rfl
theorem upd_at {α : Type} {f : Nat → α} {k i : Nat} {x : α} : upd f k x i = if i = k then x else f i := rfl

def condK (r : Reg) (p q : Prop) : Prop :=
  match r with
  | .one (.sc (.bool t)) => if t = true then p else q
  | _ => False
theorem condK_bool {t : Bool} {p q : Prop} : condK (RB t) p q = if t = true then p else q := rfl
theorem X_condK {T : Nat → Option SFun} {c : O} {a b : SC} {s : St} {Q : Ex → St → Prop} : X T (.cond c a b) s Q = condK (evO s.e c) (X T a s Q) (X T b s Q) := by
  unfold condK
  split
  · rename_i t h; exact X_cond h
  · rename_i h
    apply propext
    constructor
    · rintro ⟨k, e, s', h1, h2⟩
      simp only [exec] at h1
      first
        | (cases h1; done)
        | (split at h1
           · rename_i t ht; exact absurd ht (h t)
           · cases h1)
    · exact fun h => h.elim

theorem boolOf_b {b : Bool} : boolOf (RB b) = some b := rfl
theorem boolOf_tup {rs : List Reg} : boolOf (.tup rs) = none := rfl

section
variable {a b : Int}
theorem bin_add : binV .add (.int .i64 a) (.int .i64 b) = some (.int .i64 (IntKind.i64.wrap (a + b))) := rfl
theorem bin_sub : binV .sub (.int .i64 a) (.int .i64 b) = some (.int .i64 (IntKind.i64.wrap (a - b))) := rfl
theorem bin_mul : binV .mul (.int .i64 a) (.int .i64 b) = some (.int .i64 (IntKind.i64.wrap (a * b))) := rfl
theorem bin_lss : binV .lss (.int .i64 a) (.int .i64 b) = some (.bool (decide (a < b))) := rfl
theorem bin_leq : binV .leq (.int .i64 a) (.int .i64 b) = some (.bool (decide (a ≤ b))) := rfl
theorem bin_gtr : binV .gtr (.int .i64 a) (.int .i64 b) = some (.bool (decide (b < a))) := rfl
theorem bin_geq : binV .geq (.int .i64 a) (.int .i64 b) = some (.bool (decide (b ≤ a))) := rfl
theorem bin_eql : binV .eql (.int .i64 a) (.int .i64 b) = some (.bool (decide (a = b))) := rfl
theorem bin_neq : binV .neq (.int .i64 a) (.int .i64 b) = some (.bool (!decide (a = b))) := rfl
theorem bin_quo (h : b ≠ 0) : binV .quo (.int .i64 a) (.int .i64 b) = some (.int .i64 (IntKind.i64.wrap (a.tdiv b))) := by simp [binV, h]
theorem bin_rem (h : b ≠ 0) : binV .rem (.int .i64 a) (.int .i64 b) = some (.int .i64 (a.tmod b)) := by simp [binV, h]
theorem bin_shl (h : 0 ≤ b) (h1 : b ≤ 64) : binV .shl (.int .i64 a) (.int .i64 b) = some (.int .i64 (IntKind.i64.wrap (a * 2 ^ b.toNat))) := by
  have : ¬ b < 0 := by omega
  have h2 : min b.toNat IntKind.i64.bits = b.toNat := by simp [IntKind.bits]; omega
  simp [binV, this, h2]
theorem bin_shr (h : 0 ≤ b) (h1 : b ≤ 64) : binV .shr (.int .i64 a) (.int .i64 b) = some (.int .i64 (a.fdiv (2 ^ b.toNat))) := by
  have : ¬ b < 0 := by omega
  have h2 : min b.toNat IntKind.i64.bits = b.toNat := by simp [IntKind.bits]; omega
  simp [binV, this, h2]
theorem bin_shr1 {k : IntKind} : binV .shr (.int .i64 a) (.int k 1) = some (.int .i64 (a / 2)) := by
  show some (Value.int .i64 (a.fdiv (2 ^ 1))) = _
  rw [Int.fdiv_eq_ediv_of_nonneg _ (by decide)]; rfl
theorem un_not {t : Bool} : unV .not (.bool t) = some (.bool !t) := rfl
theorem un_neg : unV .neg (.int .i64 a) = some (.int .i64 (IntKind.i64.wrap (0 - a))) := rfl
end

def lenO (r : Reg) : Option Int :=
  match r with
  | .one (.sl _ _ len _ _) => some len
  | .one (.sc (.slice none 0 0)) => some 0
  | _ => none
theorem lenO_sl {id off len sz : Nat} {cap : Option Nat} : lenO (.one (.sl id off len cap sz)) = some (len : Int) := rfl
theorem lenO_nil : lenO rnil = some 0 := rfl

section
variable {T : Nat → Option SFun} {d : Option Nat} {os : List SOper} {env : Nat → Reg} {m : Mem} {n : Nat} {Q : (Nat → Reg) → Mem → Nat → Prop}
theorem R_mv {x : O} : R T (⟨d, .mv x, none⟩ :: os) env m n Q = Then T d os env Q (evalOp noCall env m n (.mv x)) := R_op rfl
theorem R_pick {x : O} {y : O} {z : O} : R T (⟨d, .pick x y z, none⟩ :: os) env m n Q = Then T d os env Q (evalOp noCall env m n (.pick x y z)) := R_op rfl
theorem R_alloc {zz : List Cell} : R T (⟨d, .alloc zz, none⟩ :: os) env m n Q = Then T d os env Q (evalOp noCall env m n (.alloc zz)) := R_op rfl
theorem R_box {x : O} : R T (⟨d, .box x, none⟩ :: os) env m n Q = Then T d os env Q (evalOp noCall env m n (.box x)) := R_op rfl
theorem R_build {zz : List Cell} {ps : List (Nat × Nat × O)} : R T (⟨d, .build zz ps, none⟩ :: os) env m n Q = Then T d os env Q (evalOp noCall env m n (.build zz ps)) := R_op rfl
theorem R_bslice {zz : List Cell} {k1 : Nat} {k2 : Nat} {ps : List (Nat × Nat × O)} : R T (⟨d, .bslice zz k1 k2 ps, none⟩ :: os) env m n Q = Then T d os env Q (evalOp noCall env m n (.bslice zz k1 k2 ps)) := R_op rfl
theorem R_load1 {x : O} : R T (⟨d, .load1 x, none⟩ :: os) env m n Q = Then T d os env Q (evalOp noCall env m n (.load1 x)) := R_op rfl
theorem R_loadA {k1 : Nat} {x : O} : R T (⟨d, .loadA k1 x, none⟩ :: os) env m n Q = Then T d os env Q (evalOp noCall env m n (.loadA k1 x)) := R_op rfl
theorem R_store {k1 : Nat} {x : O} {y : O} : R T (⟨d, .store k1 x y, none⟩ :: os) env m n Q = Then T d os env Q (evalOp noCall env m n (.store k1 x y)) := R_op rfl
theorem R_nilchk {x : O} : R T (⟨d, .nilchk x, none⟩ :: os) env m n Q = Then T d os env Q (evalOp noCall env m n (.nilchk x)) := R_op rfl
theorem R_bin {bo : BinOp} {x : O} {y : O} : R T (⟨d, .bin bo x y, none⟩ :: os) env m n Q = Then T d os env Q (evalOp noCall env m n (.bin bo x y)) := R_op rfl
theorem R_beq {bb : Bool} {x : O} {y : O} : R T (⟨d, .beq bb x y, none⟩ :: os) env m n Q = Then T d os env Q (evalOp noCall env m n (.beq bb x y)) := R_op rfl
theorem R_eqv {ks : List Sk} {bb : Bool} {x : O} {y : O} : R T (⟨d, .eqv ks bb x y, none⟩ :: os) env m n Q = Then T d os env Q (evalOp noCall env m n (.eqv ks bb x y)) := R_op rfl
theorem R_eqnil {k1 : Nat} {bb : Bool} {x : O} : R T (⟨d, .eqnil k1 bb x, none⟩ :: os) env m n Q = Then T d os env Q (evalOp noCall env m n (.eqnil k1 bb x)) := R_op rfl
theorem R_un {uo : UnOp} {x : O} : R T (⟨d, .un uo x, none⟩ :: os) env m n Q = Then T d os env Q (evalOp noCall env m n (.un uo x)) := R_op rfl
theorem R_conv {ik : IntKind} {x : O} : R T (⟨d, .conv ik x, none⟩ :: os) env m n Q = Then T d os env Q (evalOp noCall env m n (.conv ik x)) := R_op rfl
theorem R_mkfn {k1 : Nat} {xs : List O} : R T (⟨d, .mkfn k1 xs, none⟩ :: os) env m n Q = Then T d os env Q (evalOp noCall env m n (.mkfn k1 xs)) := R_op rfl
theorem R_mkslice {zz : List Cell} {k1 : Nat} {k2 : Nat} {x : O} {y : O} : R T (⟨d, .mkslice zz k1 k2 x y, none⟩ :: os) env m n Q = Then T d os env Q (evalOp noCall env m n (.mkslice zz k1 k2 x y)) := R_op rfl
theorem R_slS {k1 : Nat} {x : O} {l1 : Option O} {l2 : Option O} {l3 : Option O} : R T (⟨d, .slS k1 x l1 l2 l3, none⟩ :: os) env m n Q = Then T d os env Q (evalOp noCall env m n (.slS k1 x l1 l2 l3)) := R_op rfl
theorem R_slA {k1 : Nat} {k2 : Nat} {x : O} {l1 : Option O} {l2 : Option O} {l3 : Option O} : R T (⟨d, .slA k1 k2 x l1 l2 l3, none⟩ :: os) env m n Q = Then T d os env Q (evalOp noCall env m n (.slA k1 k2 x l1 l2 l3)) := R_op rfl
theorem R_fadr {k1 : Nat} {x : O} : R T (⟨d, .fadr k1 x, none⟩ :: os) env m n Q = Then T d os env Q (evalOp noCall env m n (.fadr k1 x)) := R_op rfl
theorem R_fld {k1 : Nat} {k2 : Nat} {bb : Bool} {x : O} : R T (⟨d, .fld k1 k2 bb x, none⟩ :: os) env m n Q = Then T d os env Q (evalOp noCall env m n (.fld k1 k2 bb x)) := R_op rfl
theorem R_iadrA {k1 : Nat} {k2 : Nat} {x : O} {y : O} : R T (⟨d, .iadrA k1 k2 x y, none⟩ :: os) env m n Q = Then T d os env Q (evalOp noCall env m n (.iadrA k1 k2 x y)) := R_op rfl
theorem R_iadrS {k1 : Nat} {x : O} {y : O} : R T (⟨d, .iadrS k1 x y, none⟩ :: os) env m n Q = Then T d os env Q (evalOp noCall env m n (.iadrS k1 x y)) := R_op rfl
theorem R_idxA {k1 : Nat} {k2 : Nat} {bb : Bool} {x : O} {y : O} : R T (⟨d, .idxA k1 k2 bb x y, none⟩ :: os) env m n Q = Then T d os env Q (evalOp noCall env m n (.idxA k1 k2 bb x y)) := R_op rfl
theorem R_ext {x : O} {k1 : Nat} : R T (⟨d, .ext x k1, none⟩ :: os) env m n Q = Then T d os env Q (evalOp noCall env m n (.ext x k1)) := R_op rfl
theorem R_len {x : O} : R T (⟨d, .len x, none⟩ :: os) env m n Q = Then T d os env Q ((lenO (evO env x)).map fun k => (RI k, m, n)) := by
  rw [R_op rfl]
  congr 1
  simp only [evalOp, lenO]
  split <;> simp_all
theorem R_lenC {k1 : Nat} : R T (⟨d, .lenC k1, none⟩ :: os) env m n Q = Then T d os env Q (evalOp noCall env m n (.lenC k1)) := R_op rfl
theorem R_cap {x : O} : R T (⟨d, .cap x, none⟩ :: os) env m n Q = Then T d os env Q (evalOp noCall env m n (.cap x)) := R_op rfl
theorem R_app {k1 : Nat} {k2 : Nat} {x : O} {y : O} : R T (⟨d, .app k1 k2 x y, none⟩ :: os) env m n Q = Then T d os env Q (evalOp noCall env m n (.app k1 k2 x y)) := R_op rfl
theorem R_cpy {k1 : Nat} {x : O} {y : O} : R T (⟨d, .cpy k1 x y, none⟩ :: os) env m n Q = Then T d os env Q (evalOp noCall env m n (.cpy k1 x y)) := R_op rfl
theorem R_mn {xs : List O} : R T (⟨d, .mn xs, none⟩ :: os) env m n Q = Then T d os env Q (evalOp noCall env m n (.mn xs)) := R_op rfl
theorem R_mx {xs : List O} : R T (⟨d, .mx xs, none⟩ :: os) env m n Q = Then T d os env Q (evalOp noCall env m n (.mx xs)) := R_op rfl
end


/-! ### numbers that differ -/
section
variable {n : Nat}
theorem sn1 : (n = n + 1) = False := eq_false (by omega)
theorem ns1 : (n + 1 = n) = False := eq_false (by omega)
theorem sn2 : (n = n + 1 + 1) = False := eq_false (by omega)
theorem ns2 : (n + 1 + 1 = n) = False := eq_false (by omega)
theorem sn3 : (n = n + 1 + 1 + 1) = False := eq_false (by omega)
theorem ns3 : (n + 1 + 1 + 1 = n) = False := eq_false (by omega)
theorem sn4 : (n = n + 1 + 1 + 1 + 1) = False := eq_false (by omega)
theorem ns4 : (n + 1 + 1 + 1 + 1 = n) = False := eq_false (by omega)
theorem sn5 : (n = n + 1 + 1 + 1 + 1 + 1) = False := eq_false (by omega)
theorem ns5 : (n + 1 + 1 + 1 + 1 + 1 = n) = False := eq_false (by omega)
theorem sn6 : (n = n + 1 + 1 + 1 + 1 + 1 + 1) = False := eq_false (by omega)
theorem ns6 : (n + 1 + 1 + 1 + 1 + 1 + 1 = n) = False := eq_false (by omega)
theorem sn7 : (n = n + 1 + 1 + 1 + 1 + 1 + 1 + 1) = False := eq_false (by omega)
theorem ns7 : (n + 1 + 1 + 1 + 1 + 1 + 1 + 1 = n) = False := eq_false (by omega)
theorem sn8 : (n = n + 1 + 1 + 1 + 1 + 1 + 1 + 1 + 1) = False := eq_false (by omega)
theorem ns8 : (n + 1 + 1 + 1 + 1 + 1 + 1 + 1 + 1 = n) = False := eq_false (by omega)
theorem sn9 : (n = n + 1 + 1 + 1 + 1 + 1 + 1 + 1 + 1 + 1) = False := eq_false (by omega)
theorem ns9 : (n + 1 + 1 + 1 + 1 + 1 + 1 + 1 + 1 + 1 = n) = False := eq_false (by omega)
theorem sn10 : (n = n + 1 + 1 + 1 + 1 + 1 + 1 + 1 + 1 + 1 + 1) = False := eq_false (by omega)
theorem ns10 : (n + 1 + 1 + 1 + 1 + 1 + 1 + 1 + 1 + 1 + 1 = n) = False := eq_false (by omega)
theorem sn11 : (n = n + 1 + 1 + 1 + 1 + 1 + 1 + 1 + 1 + 1 + 1 + 1) = False := eq_false (by omega)
theorem ns11 : (n + 1 + 1 + 1 + 1 + 1 + 1 + 1 + 1 + 1 + 1 + 1 = n) = False := eq_false (by omega)
theorem sn12 : (n = n + 1 + 1 + 1 + 1 + 1 + 1 + 1 + 1 + 1 + 1 + 1 + 1) = False := eq_false (by omega)
theorem ns12 : (n + 1 + 1 + 1 + 1 + 1 + 1 + 1 + 1 + 1 + 1 + 1 + 1 = n) = False := eq_false (by omega)
theorem sk1_2 : (n + 1 = n + 1 + 1) = False := eq_false (by omega)
theorem sk1_3 : (n + 1 = n + 1 + 1 + 1) = False := eq_false (by omega)
theorem sk1_4 : (n + 1 = n + 1 + 1 + 1 + 1) = False := eq_false (by omega)
theorem sk1_5 : (n + 1 = n + 1 + 1 + 1 + 1 + 1) = False := eq_false (by omega)
theorem sk1_6 : (n + 1 = n + 1 + 1 + 1 + 1 + 1 + 1) = False := eq_false (by omega)
theorem sk1_7 : (n + 1 = n + 1 + 1 + 1 + 1 + 1 + 1 + 1) = False := eq_false (by omega)
theorem sk1_8 : (n + 1 = n + 1 + 1 + 1 + 1 + 1 + 1 + 1 + 1) = False := eq_false (by omega)
theorem sk2_1 : (n + 1 + 1 = n + 1) = False := eq_false (by omega)
theorem sk2_3 : (n + 1 + 1 = n + 1 + 1 + 1) = False := eq_false (by omega)
theorem sk2_4 : (n + 1 + 1 = n + 1 + 1 + 1 + 1) = False := eq_false (by omega)
theorem sk2_5 : (n + 1 + 1 = n + 1 + 1 + 1 + 1 + 1) = False := eq_false (by omega)
theorem sk2_6 : (n + 1 + 1 = n + 1 + 1 + 1 + 1 + 1 + 1) = False := eq_false (by omega)
theorem sk2_7 : (n + 1 + 1 = n + 1 + 1 + 1 + 1 + 1 + 1 + 1) = False := eq_false (by omega)
theorem sk2_8 : (n + 1 + 1 = n + 1 + 1 + 1 + 1 + 1 + 1 + 1 + 1) = False := eq_false (by omega)
theorem sk3_1 : (n + 1 + 1 + 1 = n + 1) = False := eq_false (by omega)
theorem sk3_2 : (n + 1 + 1 + 1 = n + 1 + 1) = False := eq_false (by omega)
theorem sk3_4 : (n + 1 + 1 + 1 = n + 1 + 1 + 1 + 1) = False := eq_false (by omega)
theorem sk3_5 : (n + 1 + 1 + 1 = n + 1 + 1 + 1 + 1 + 1) = False := eq_false (by omega)
theorem sk3_6 : (n + 1 + 1 + 1 = n + 1 + 1 + 1 + 1 + 1 + 1) = False := eq_false (by omega)
theorem sk3_7 : (n + 1 + 1 + 1 = n + 1 + 1 + 1 + 1 + 1 + 1 + 1) = False := eq_false (by omega)
theorem sk3_8 : (n + 1 + 1 + 1 = n + 1 + 1 + 1 + 1 + 1 + 1 + 1 + 1) = False := eq_false (by omega)
theorem sk4_1 : (n + 1 + 1 + 1 + 1 = n + 1) = False := eq_false (by omega)
theorem sk4_2 : (n + 1 + 1 + 1 + 1 = n + 1 + 1) = False := eq_false (by omega)
theorem sk4_3 : (n + 1 + 1 + 1 + 1 = n + 1 + 1 + 1) = False := eq_false (by omega)
theorem sk4_5 : (n + 1 + 1 + 1 + 1 = n + 1 + 1 + 1 + 1 + 1) = False := eq_false (by omega)
theorem sk4_6 : (n + 1 + 1 + 1 + 1 = n + 1 + 1 + 1 + 1 + 1 + 1) = False := eq_false (by omega)
theorem sk4_7 : (n + 1 + 1 + 1 + 1 = n + 1 + 1 + 1 + 1 + 1 + 1 + 1) = False := eq_false (by omega)
theorem sk4_8 : (n + 1 + 1 + 1 + 1 = n + 1 + 1 + 1 + 1 + 1 + 1 + 1 + 1) = False := eq_false (by omega)
theorem sk5_1 : (n + 1 + 1 + 1 + 1 + 1 = n + 1) = False := eq_false (by omega)
theorem sk5_2 : (n + 1 + 1 + 1 + 1 + 1 = n + 1 + 1) = False := eq_false (by omega)
theorem sk5_3 : (n + 1 + 1 + 1 + 1 + 1 = n + 1 + 1 + 1) = False := eq_false (by omega)
theorem sk5_4 : (n + 1 + 1 + 1 + 1 + 1 = n + 1 + 1 + 1 + 1) = False := eq_false (by omega)
theorem sk5_6 : (n + 1 + 1 + 1 + 1 + 1 = n + 1 + 1 + 1 + 1 + 1 + 1) = False := eq_false (by omega)
theorem sk5_7 : (n + 1 + 1 + 1 + 1 + 1 = n + 1 + 1 + 1 + 1 + 1 + 1 + 1) = False := eq_false (by omega)
theorem sk5_8 : (n + 1 + 1 + 1 + 1 + 1 = n + 1 + 1 + 1 + 1 + 1 + 1 + 1 + 1) = False := eq_false (by omega)
theorem sk6_1 : (n + 1 + 1 + 1 + 1 + 1 + 1 = n + 1) = False := eq_false (by omega)
theorem sk6_2 : (n + 1 + 1 + 1 + 1 + 1 + 1 = n + 1 + 1) = False := eq_false (by omega)
theorem sk6_3 : (n + 1 + 1 + 1 + 1 + 1 + 1 = n + 1 + 1 + 1) = False := eq_false (by omega)
theorem sk6_4 : (n + 1 + 1 + 1 + 1 + 1 + 1 = n + 1 + 1 + 1 + 1) = False := eq_false (by omega)
theorem sk6_5 : (n + 1 + 1 + 1 + 1 + 1 + 1 = n + 1 + 1 + 1 + 1 + 1) = False := eq_false (by omega)
theorem sk6_7 : (n + 1 + 1 + 1 + 1 + 1 + 1 = n + 1 + 1 + 1 + 1 + 1 + 1 + 1) = False := eq_false (by omega)
theorem sk6_8 : (n + 1 + 1 + 1 + 1 + 1 + 1 = n + 1 + 1 + 1 + 1 + 1 + 1 + 1 + 1) = False := eq_false (by omega)
theorem sk7_1 : (n + 1 + 1 + 1 + 1 + 1 + 1 + 1 = n + 1) = False := eq_false (by omega)
theorem sk7_2 : (n + 1 + 1 + 1 + 1 + 1 + 1 + 1 = n + 1 + 1) = False := eq_false (by omega)
theorem sk7_3 : (n + 1 + 1 + 1 + 1 + 1 + 1 + 1 = n + 1 + 1 + 1) = False := eq_false (by omega)
theorem sk7_4 : (n + 1 + 1 + 1 + 1 + 1 + 1 + 1 = n + 1 + 1 + 1 + 1) = False := eq_false (by omega)
theorem sk7_5 : (n + 1 + 1 + 1 + 1 + 1 + 1 + 1 = n + 1 + 1 + 1 + 1 + 1) = False := eq_false (by omega)
theorem sk7_6 : (n + 1 + 1 + 1 + 1 + 1 + 1 + 1 = n + 1 + 1 + 1 + 1 + 1 + 1) = False := eq_false (by omega)
theorem sk7_8 : (n + 1 + 1 + 1 + 1 + 1 + 1 + 1 = n + 1 + 1 + 1 + 1 + 1 + 1 + 1 + 1) = False := eq_false (by omega)
theorem sk8_1 : (n + 1 + 1 + 1 + 1 + 1 + 1 + 1 + 1 = n + 1) = False := eq_false (by omega)
theorem sk8_2 : (n + 1 + 1 + 1 + 1 + 1 + 1 + 1 + 1 = n + 1 + 1) = False := eq_false (by omega)
theorem sk8_3 : (n + 1 + 1 + 1 + 1 + 1 + 1 + 1 + 1 = n + 1 + 1 + 1) = False := eq_false (by omega)
theorem sk8_4 : (n + 1 + 1 + 1 + 1 + 1 + 1 + 1 + 1 = n + 1 + 1 + 1 + 1) = False := eq_false (by omega)
theorem sk8_5 : (n + 1 + 1 + 1 + 1 + 1 + 1 + 1 + 1 = n + 1 + 1 + 1 + 1 + 1) = False := eq_false (by omega)
theorem sk8_6 : (n + 1 + 1 + 1 + 1 + 1 + 1 + 1 + 1 = n + 1 + 1 + 1 + 1 + 1 + 1) = False := eq_false (by omega)
theorem sk8_7 : (n + 1 + 1 + 1 + 1 + 1 + 1 + 1 + 1 = n + 1 + 1 + 1 + 1 + 1 + 1 + 1) = False := eq_false (by omega)
end

theorem pack_one {r : Reg} : pack [r] = r := rfl
theorem pack_two {r s : Reg} : pack [r, s] = .tup [r, s] := rfl
theorem pack_three {r s t : Reg} : pack [r, s, t] = .tup [r, s, t] := rfl
theorem pack_none : pack [] = .tup [] := rfl
theorem getD_nil {t : Nat} : ([] : List Reg).getD t (.tup []) = .tup [] := by simp

/-! ### slices that are read -/
def Rd (m : Mem) (n : Nat) (r : Reg) (cs : List Cell) (len sz : Nat) : Prop :=
  (r = rnil ∧ len = 0 ∧ cs = []) ∨ ∃ id off cap, r = .one (.sl id off len cap sz) ∧ id < n ∧ rd m id off (len * sz) = some cs

theorem rd_frz (m : Mem) (id off k : Nat) : rd (frz m) id off k = rd m id off k := by
  unfold rd frz
  cases m id <;> rfl

theorem rd_len {m : Mem} {id off k : Nat} {cs : List Cell} (h : rd m id off k = some cs) : cs.length = k := by
  unfold rd at h
  split at h
  case h_2 => cases h
  split at h
  case isFalse => cases h
  cases h
  simp; omega

/-- A part of what is read. -/
theorem rd_part {m : Mem} {id off k a b : Nat} {cs : List Cell} (h : rd m id off k = some cs) (hab : a + b ≤ k) : rd m id (off + a) b = some ((cs.drop a).take b) := by
  unfold rd at h ⊢
  split at h
  case h_2 => cases h
  rename_i blk hb
  split at h
  case isFalse => cases h
  rename_i hle
  cases h
  rw [if_pos (by omega)]
  congr 1
  rw [List.drop_take, List.take_take, List.drop_drop]
  congr 1
  omega

theorem rd_cell {m : Mem} {id off k a : Nat} {cs : List Cell} {c : Cell} (h : rd m id off k = some cs) (hc : cs[a]? = some c) : ∃ b, m id = some b ∧ b.cells[off + a]? = some c := by
  have hl := rd_len h
  unfold rd at h
  split at h
  case h_2 => cases h
  rename_i blk hb
  split at h
  case isFalse => cases h
  rename_i hle
  cases h
  have ha : a < k := by rw [← hl]; exact (List.getElem?_eq_some_iff.1 hc).1
  refine ⟨blk, hb, ?_⟩
  rwa [List.getElem?_take_of_lt ha, List.getElem?_drop] at hc

theorem Rd.frz {m : Mem} {n : Nat} {r : Reg} {cs : List Cell} {len sz : Nat} (h : Rd m n r cs len sz) : Rd (frz m) n r cs len sz := by
  rcases h with h | ⟨id, off, cap, h1, h2, h3⟩
  · exact Or.inl h
  · exact Or.inr ⟨id, off, cap, h1, h2, by rw [rd_frz]; exact h3⟩

/-- What is read stays, where the old memory stays. -/
theorem Rd.keep {m m' : Mem} {n n' : Nat} {r : Reg} {cs : List Cell} {len sz : Nat} (h : Rd m n r cs len sz) (hn : n ≤ n') (hm : ∀ id, id < n → m' id = m id) : Rd m' n' r cs len sz := by
  rcases h with h | ⟨id, off, cap, h1, h2, h3⟩
  · exact Or.inl h
  · refine Or.inr ⟨id, off, cap, h1, by omega, ?_⟩
    have : rd m' id off (len * sz) = rd m id off (len * sz) := by unfold rd; rw [hm id h2]
    rw [this]; exact h3

theorem Rd.len {m : Mem} {n : Nat} {r : Reg} {cs : List Cell} {len sz : Nat} (h : Rd m n r cs len sz) : lenO r = some (len : Int) := by
  rcases h with ⟨rfl, rfl, rfl⟩ | ⟨id, off, cap, rfl, h2, h3⟩ <;> rfl
theorem len_Rd {call : Callf} {env : Nat → Reg} {m : Mem} {n : Nat} {r : Reg} {cs : List Cell} {len sz : Nat} {x : O} (h : Rd m n r cs len sz) (hx : evO env x = r) : evalOp call env m n (.len x) = some (RI len, m, n) := by
  rcases h with ⟨rfl, rfl, rfl⟩ | ⟨id, off, cap, rfl, h2, h3⟩ <;> simp [evalOp, hx]

def rdB (b : Blk) (off k : Nat) : Option (List Cell) := if off + k ≤ b.cells.length then some ((b.cells.drop off).take k) else none
theorem rd_upd {m : Mem} {k id off j : Nat} {b : Blk} : rd (upd m k (some b)) id off j = if id = k then rdB b off j else rd m id off j := by
  unfold rd rdB
  by_cases h : id = k
  · subst h; rw [upd_same, if_pos rfl]
  · rw [upd_ne _ _ h, if_neg h]
theorem lt0 {id n : Nat} (h : id < n) : (id = n) = False := eq_false (by omega)
theorem lt1 {id n : Nat} (h : id < n) : (id = n + 1) = False := eq_false (by omega)
theorem lt2 {id n : Nat} (h : id < n) : (id = n + 1 + 1) = False := eq_false (by omega)
theorem lt3 {id n : Nat} (h : id < n) : (id = n + 1 + 1 + 1) = False := eq_false (by omega)
theorem lt4 {id n : Nat} (h : id < n) : (id = n + 1 + 1 + 1 + 1) = False := eq_false (by omega)
theorem wr_nat {i : Nat} (h : i < 4294967296) : IntKind.i64.wrap ((i : Int) + 1) = ((i + 1 : Nat) : Int) := by
  rw [wr_eq (by omega) (by omega)]; rfl

/-- Rows of records: the record i. -/
theorem flatMap_at {α : Type} (enc : α → List Cell) (sz : Nat) (hsz : ∀ x, (enc x).length = sz) : ∀ (l : List α) (i : Nat) (x : α), l[i]? = some x → ((l.flatMap enc).drop (i * sz)).take sz = enc x
  | [], i, x, h => by simp at h
  | y :: l, 0, x, h => by
    simp only [List.getElem?_cons_zero, Option.some.injEq] at h
    subst h
    rw [Nat.zero_mul, List.drop_zero, List.flatMap_cons, List.take_append_of_le_length (by rw [hsz]; exact Nat.le_refl _), List.take_of_length_le (by rw [hsz]; exact Nat.le_refl _)]
  | y :: l, i + 1, x, h => by
    rw [List.flatMap_cons, List.drop_append, List.drop_of_length_le (by rw [hsz, Nat.add_mul]; omega), List.nil_append, hsz, show (i + 1) * sz - sz = i * sz by rw [Nat.add_mul]; omega]
    exact flatMap_at enc sz hsz l i x (by simpa using h)
theorem flatMap_len {α : Type} (enc : α → List Cell) (sz : Nat) (hsz : ∀ x, (enc x).length = sz) (l : List α) : (l.flatMap enc).length = l.length * sz := by
  induction l with
  | nil => simp
  | cons x l ih => rw [List.flatMap_cons, List.length_append, hsz, ih, List.length_cons, Nat.add_mul]; omega
theorem rd_at {α : Type} {enc : α → List Cell} {sz : Nat} (hsz : ∀ x, (enc x).length = sz) {m : Mem} {id off : Nat} {l : List α} {i : Nat} {x : α} (h : rd m id off (l.length * sz) = some (l.flatMap enc)) (hi : l[i]? = some x) : rd m id (off + i * sz) sz = some (enc x) := by
  have hlt : i < l.length := (List.getElem?_eq_some_iff.1 hi).1
  have h1 : i * sz + sz ≤ l.length * sz := by
    have := Nat.mul_le_mul_right sz (show i + 1 ≤ l.length from hlt)
    rw [Nat.add_mul] at this; omega
  rw [rd_part h h1, flatMap_at enc sz hsz l i x hi]

/-! ### rules that do not hold for any memory -/
theorem R_then {T : Nat → Option SFun} {d : Option Nat} {op : SOp} {os : List SOper} {env : Nat → Reg} {m m' : Mem} {n n' : Nat} {r : Reg} {Q : (Nat → Reg) → Mem → Nat → Prop} (hc : isCall op = false)
    (h : evalOp noCall env m n op = some (r, m', n')) (hR : R T os (putE env d r) m' n' Q) : R T (⟨d, op, none⟩ :: os) env m n Q := by
  rw [R_op hc, h]
  exact hR
end Go.Proofs.Ytoakdmjpbachdaa.Sy

/- An evaluator of a part of Go's operations over a memory of its own, part seventeen: calls told as_ values. Conditions: those that each theorem names. -/
namespace Go.Proofs.Ytoakdmjpbachdaa.Sy
open Go
set_option linter.unusedVariables false
set_option linter.unusedSimpArgs false

open Classical in
/-- A function's answer, whatever the rounds. -/
noncomputable def callR (T : Nat → Option SFun) : Callf := fun f a m n => if h : ∃ x, ∃ k, run T k f a m n = some x then some (Classical.choose h) else none

theorem callR_of {T : Nat → Option SFun} {k f : Nat} {a : List Reg} {m : Mem} {n : Nat} {x : Reg × Mem × Nat} (h : run T k f a m n = some x) : callR T f a m n = some x := by
  have hx : ∃ x, ∃ k, run T k f a m n = some x := ⟨x, k, h⟩
  unfold callR
  rw [dif_pos hx]
  obtain ⟨k2, h2⟩ := Classical.choose_spec hx
  have e1 := run_mono (Nat.le_max_left k k2) _ _ _ _ _ h
  have e2 := run_mono (Nat.le_max_right k k2) _ _ _ _ _ h2
  rw [e1] at e2
  exact e2.symm ▸ rfl

theorem callR_inv {T : Nat → Option SFun} {f : Nat} {a : List Reg} {m : Mem} {n : Nat} {x : Reg × Mem × Nat} (h : callR T f a m n = some x) : ∃ k, run T k f a m n = some x := by
  unfold callR at h
  split at h
  case isFalse => cases h
  rename_i hx
  cases h
  exact Classical.choose_spec hx

theorem run_le {T : Nat → Option SFun} (k : Nat) : CallLe (run T k) (callR T) := fun _ _ _ _ _ h => callR_of h

theorem doCall_R {T : Nat → Option SFun} {md : Mode} {f : Nat} {a : List Reg} {m : Mem} {n : Nat} {x : Reg × Mem × Nat} (h : doCall (callR T) md f a m n = some x) : ∃ k, doCall (run T k) md f a m n = some x := by
  unfold doCall at h ⊢
  cases md with
  | q =>
    simp only at h ⊢
    split at h
    case h_2 => cases h
    rename_i r m1 n1 h1
    obtain ⟨k, hk⟩ := callR_inv h1
    exact ⟨k, by rw [hk]; exact h⟩
  | k =>
    simp only at h ⊢
    split at h
    case h_2 => cases h
    rename_i r m1 n1 h1
    obtain ⟨k, hk⟩ := callR_inv h1
    exact ⟨k, by rw [hk]; exact h⟩
  | w => exact callR_inv h
  | z g =>
    simp only at h ⊢
    split at h
    case isFalse => cases h
    rename_i hf
    split at h
    case h_2 => cases h
    rename_i r m1 n1 h1
    obtain ⟨k, hk⟩ := callR_inv h1
    exact ⟨k, by rw [if_pos hf, hk]; exact h⟩

section
variable {T : Nat → Option SFun} {d : Option Nat} {os : List SOper} {env : Nat → Reg} {m : Mem} {n : Nat} {Q : (Nat → Reg) → Mem → Nat → Prop}

theorem R_call {md : Mode} {f : Nat} {xs : List O} : R T (⟨d, .call md f xs, none⟩ :: os) env m n Q = Then T d os env Q (doCall (callR T) md f (evOs env xs) m n) := by
  apply propext
  constructor
  · rintro ⟨k, e, m', n', h1, h2⟩
    simp only [evalOps, wantedS, evalOp] at h1
    split at h1
    case h_2 => cases h1
    rename_i r m1 n1 h3
    rw [doCall_mono (run_le k) h3]
    exact ⟨k, e, m', n', h1, h2⟩
  · intro h
    cases h3 : doCall (callR T) md f (evOs env xs) m n with
    | none => rw [h3] at h; exact h.elim
    | some y =>
      obtain ⟨r, m1, n1⟩ := y
      rw [h3] at h
      obtain ⟨k2, e, m', n', h1, h2⟩ := h
      obtain ⟨k1, hk⟩ := doCall_R h3
      refine ⟨max k1 k2, e, m', n', ?_, h2⟩
      simp only [evalOps, wantedS, evalOp]
      rw [doCall_mono (run_mono (Nat.le_max_left k1 k2)) hk]
      exact evalOps_mono (run_mono (Nat.le_max_right k1 k2)) h1

/-- A quiet function's answer. -/
noncomputable def callF (T : Nat → Option SFun) (f : Nat) (a : List Reg) (m : Mem) (n : Nat) : Option Reg := (callR T f a m n).map (·.1)
theorem callF_of {f : Nat} {a : List Reg} {r0 : Reg} (h : Fn T f a m n (fun r _ _ => r = r0)) : callF T f a m n = some r0 := by
  obtain ⟨k, r, m', n', h1, rfl⟩ := h
  unfold callF
  rw [callR_of h1]
  rfl

theorem evOs_c (rs : List Reg) : evOs env (rs.map O.c) = rs := by
  induction rs with
  | nil => rfl
  | cons r rs ih => simp [evOs, evO, ih]

end

theorem iter_mono {f : St → Option (Ex × St)} {x : Ex × St} : ∀ {j k : Nat} {s : St}, j ≤ k → iter f j s = some x → iter f k s = some x
  | 0, _, _, _, h => by simp [iter] at h
  | j + 1, 0, _, hle, _ => by omega
  | j + 1, k + 1, s, hle, h => by
    simp only [iter] at h ⊢
    cases h1 : f s with
    | none => rw [h1] at h; cases h
    | some y =>
      rw [h1] at h
      obtain ⟨e, s'⟩ := y
      cases e with
      | n => exact iter_mono (by omega) h
      | x id => exact h
      | r => exact h

theorem X_loopE {T : Nat → Option SFun} {b : SC} {s : St} {Q : Ex → St → Prop} : X T (.loop b) s Q = X T b s (Next Q (fun s' => X T (.loop b) s' Q)) := by
  apply propext
  constructor
  · rintro ⟨k, e, s', h1, h2⟩
    simp only [exec] at h1
    cases k with
    | zero => simp [iter] at h1
    | succ k =>
      simp only [iter] at h1
      cases h3 : exec (run T (k + 1)) (k + 1) b s with
      | none => rw [h3] at h1; cases h1
      | some y =>
        rw [h3] at h1
        obtain ⟨e1, s1⟩ := y
        cases e1 with
        | n => exact ⟨k + 1, .n, s1, h3, k + 1, e, s', by simp only [exec]; exact iter_mono (Nat.le_succ k) h1, h2⟩
        | x id => cases h1; exact ⟨k + 1, _, _, h3, h2⟩
        | r => cases h1; exact ⟨k + 1, _, _, h3, h2⟩
  · exact X_loop

/-! ### a walk as_ a machine: what comes later is data, so that a walk's simp does not look into it -/
inductive Kt where
  | top (Q : Ex → St → Prop)
  | fin (rs : List SRes) (Q : Reg → Mem → Nat → Prop)
  | seq (b : SC) (k : Kt)
  | blk (id : Nat) (k : Kt)
  | lp (b : SC) (k : Kt)
  | chk (dis : List (Nat × Nat)) (k : Kt)
  | chku (es : List Nat) (dis : List (Nat × Nat)) (m : Mem) (k : Kt)

section
variable {T : Nat → Option SFun}
def Kt.den (T : Nat → Option SFun) : Kt → Ex → St → Prop
  | .top Q => Q
  | .fin rs Q => Ret rs Q
  | .seq b k => Next (k.den T) (fun s => X T b s (k.den T))
  | .blk id k => Out id (k.den T)
  | .lp b k => Next (k.den T) (fun s => X T (.loop b) s (k.den T))
  | .chk dis k => Next (k.den T) (fun s => disOk s.e dis = true ∧ k.den T .n s)
  | .chku es dis m k => Next (k.den T) (fun s => (disOk s.e dis = true ∧ safeOk m s.e es = true) ∧ k.den T .n s)
def XK (T : Nat → Option SFun) (c : SC) (s : St) (k : Kt) : Prop := X T c s (k.den T)
def RK (T : Nat → Option SFun) (os : List SOper) (e : Nat → Reg) (m : Mem) (n : Nat) (k : Kt) : Prop := R T os e m n (fun e m n => k.den T .n ⟨e, m, n⟩)
def KN (T : Nat → Option SFun) (k : Kt) (s : St) : Prop := k.den T .n s
def KX (T : Nat → Option SFun) (k : Kt) (id : Nat) (s : St) : Prop := k.den T (.x id) s
def KR (T : Nat → Option SFun) (k : Kt) (s : St) : Prop := k.den T .r s
/-- A fork. -/
def FK (T : Nat → Option SFun) (r : Reg) (a b : SC) (s : St) (k : Kt) : Prop := condK r (XK T a s k) (XK T b s k)
/-- An operation behind a guard. -/
def GK (T : Nat → Option SFun) (t : Option Bool) (b : Bool) (d : Option Nat) (op : SOp) (os : List SOper) (e : Nat → Reg) (m : Mem) (n : Nat) (k : Kt) : Prop :=
  if t = some b then RK T (⟨d, op, none⟩ :: os) e m n k else RK T os (putE e d (.tup [])) m n k
def ThenK (T : Nat → Option SFun) (d : Option Nat) (os : List SOper) (e : Nat → Reg) (k : Kt) : Option (Reg × Mem × Nat) → Prop
  | some (r, m, n) => RK T os (putE e d r) m n k
  | none => False
def QK (T : Nat → Option SFun) (d : Option Nat) (os : List SOper) (e : Nat → Reg) (m : Mem) (n : Nat) (k : Kt) : Option Reg → Prop
  | some r => r.flat = true ∧ RK T os (putE e d r) m n k
  | none => False
def VK (T : Nat → Option SFun) (d : Option Nat) (md : Mode) (as_ : List Reg) (os : List SOper) (e : Nat → Reg) (m : Mem) (n : Nat) (k : Kt) : Reg → Prop
  | .one (.clo f caps) => RK T (⟨d, .call md f ((as_ ++ caps.map Reg.one).map O.c), none⟩ :: os) e m n k
  | _ => False
def plainOp : SOp → Bool
  | .call .. | .callv .. | .len .. => false
  | _ => true

variable {c : O} {a b : SC} {s : St} {k : Kt} {id j : Nat} {e : Nat → Reg} {m : Mem} {n : Nat} {d : Option Nat} {op : SOp} {os : List SOper}
theorem XK_seq : XK T (.seq a b) s k = XK T a s (.seq b k) := X_seq
theorem XK_block : XK T (.block id b) s k = XK T b s (.blk id k) := X_block
theorem XK_skip : XK T .skip s k = KN T k s := X_skip
theorem XK_exit : XK T (.exit id) s k = KX T k id s := X_exit
theorem XK_ret : XK T .ret s k = KR T k s := X_ret
theorem XK_cond : XK T (.cond c a b) s k = FK T (evO s.e c) a b s k := X_condK
theorem XK_reg : XK T (.reg os) s k = RK T os s.e s.m s.n k := X_reg
theorem XK_dreg {dis : List (Nat × Nat)} : XK T (.dreg dis os) s k = RK T os s.e s.m s.n (.chk dis k) := X_dreg
theorem XK_ureg {es : List Nat} {dis : List (Nat × Nat)} : XK T (.ureg es dis os) s k = RK T os s.e s.m s.n (.chku es dis s.m k) := X_ureg
theorem XK_loop : XK T (.loop b) s k = XK T b s (.lp b k) := X_loopE
theorem KN_seq : KN T (.seq b k) s = XK T b s k := rfl
theorem KN_blk : KN T (.blk id k) s = KN T k s := rfl
theorem KN_lp : KN T (.lp b k) s = XK T (.loop b) s k := rfl
theorem KN_chk {dis : List (Nat × Nat)} : KN T (.chk dis k) s = (disOk s.e dis = true ∧ KN T k s) := rfl
theorem KN_chku {es : List Nat} {dis : List (Nat × Nat)} : KN T (.chku es dis m k) s = ((disOk s.e dis = true ∧ safeOk m s.e es = true) ∧ KN T k s) := rfl
theorem KN_top {Q : Ex → St → Prop} : KN T (.top Q) s = Q .n s := rfl
theorem KN_fin {rs : List SRes} {Q : Reg → Mem → Nat → Prop} : KN T (.fin rs Q) s = ∃ regs, evRes s rs = some regs ∧ Q (pack regs) s.m s.n := rfl
theorem KX_seq : KX T (.seq b k) id s = KX T k id s := rfl
theorem KX_lp : KX T (.lp b k) id s = KX T k id s := rfl
theorem KX_blk : KX T (.blk j k) id s = if id = j then KN T k s else KX T k id s := rfl
theorem KX_chk {dis : List (Nat × Nat)} : KX T (.chk dis k) id s = KX T k id s := rfl
theorem KX_top {Q : Ex → St → Prop} : KX T (.top Q) id s = Q (.x id) s := rfl
theorem KR_seq : KR T (.seq b k) s = KR T k s := rfl
theorem KR_blk : KR T (.blk id k) s = KR T k s := rfl
theorem KR_lp : KR T (.lp b k) s = KR T k s := rfl
theorem KR_chk {dis : List (Nat × Nat)} : KR T (.chk dis k) s = KR T k s := rfl
theorem KR_top {Q : Ex → St → Prop} : KR T (.top Q) s = Q .r s := rfl
theorem KR_fin {rs : List SRes} {Q : Reg → Mem → Nat → Prop} : KR T (.fin rs Q) s = ∃ regs, evRes s rs = some regs ∧ Q (pack regs) s.m s.n := rfl
theorem FK_true : FK T (RB true) a b s k = XK T a s k := by simp [FK, condK_bool]
theorem FK_false : FK T (RB false) a b s k = XK T b s k := by simp [FK, condK_bool]
theorem RK_nil : RK T [] e m n k = KN T k ⟨e, m, n⟩ := R_nil
theorem RK_op (h : plainOp op = true) : RK T (⟨d, op, none⟩ :: os) e m n k = ThenK T d os e k (evalOp noCall e m n op) := by
  have hc : isCall op = false := by cases op <;> simp_all [plainOp, isCall]
  unfold RK
  rw [R_op hc]
  cases evalOp noCall e m n op with
  | none => rfl
  | some x => rfl
theorem RK_mv {x : O} : RK T (⟨d, .mv x, none⟩ :: os) e m n k = ThenK T d os e k (evalOp noCall e m n (.mv x)) := RK_op rfl
theorem RK_pick {x : O} {y : O} {z : O} : RK T (⟨d, .pick x y z, none⟩ :: os) e m n k = ThenK T d os e k (evalOp noCall e m n (.pick x y z)) := RK_op rfl
theorem RK_alloc {zz : List Cell} : RK T (⟨d, .alloc zz, none⟩ :: os) e m n k = ThenK T d os e k (evalOp noCall e m n (.alloc zz)) := RK_op rfl
theorem RK_box {x : O} : RK T (⟨d, .box x, none⟩ :: os) e m n k = ThenK T d os e k (evalOp noCall e m n (.box x)) := RK_op rfl
theorem RK_build {zz : List Cell} {ps : List (Nat × Nat × O)} : RK T (⟨d, .build zz ps, none⟩ :: os) e m n k = ThenK T d os e k (evalOp noCall e m n (.build zz ps)) := RK_op rfl
theorem RK_bslice {zz : List Cell} {k1 : Nat} {k2 : Nat} {ps : List (Nat × Nat × O)} : RK T (⟨d, .bslice zz k1 k2 ps, none⟩ :: os) e m n k = ThenK T d os e k (evalOp noCall e m n (.bslice zz k1 k2 ps)) := RK_op rfl
theorem RK_load1 {x : O} : RK T (⟨d, .load1 x, none⟩ :: os) e m n k = ThenK T d os e k (evalOp noCall e m n (.load1 x)) := RK_op rfl
theorem RK_loadA {k1 : Nat} {x : O} : RK T (⟨d, .loadA k1 x, none⟩ :: os) e m n k = ThenK T d os e k (evalOp noCall e m n (.loadA k1 x)) := RK_op rfl
theorem RK_store {k1 : Nat} {x : O} {y : O} : RK T (⟨d, .store k1 x y, none⟩ :: os) e m n k = ThenK T d os e k (evalOp noCall e m n (.store k1 x y)) := RK_op rfl
theorem RK_nilchk {x : O} : RK T (⟨d, .nilchk x, none⟩ :: os) e m n k = ThenK T d os e k (evalOp noCall e m n (.nilchk x)) := RK_op rfl
theorem RK_bin {bo : BinOp} {x : O} {y : O} : RK T (⟨d, .bin bo x y, none⟩ :: os) e m n k = ThenK T d os e k (evalOp noCall e m n (.bin bo x y)) := RK_op rfl
theorem RK_beq {bb : Bool} {x : O} {y : O} : RK T (⟨d, .beq bb x y, none⟩ :: os) e m n k = ThenK T d os e k (evalOp noCall e m n (.beq bb x y)) := RK_op rfl
theorem RK_eqv {ks : List Sk} {bb : Bool} {x : O} {y : O} : RK T (⟨d, .eqv ks bb x y, none⟩ :: os) e m n k = ThenK T d os e k (evalOp noCall e m n (.eqv ks bb x y)) := RK_op rfl
theorem RK_eqnil {k1 : Nat} {bb : Bool} {x : O} : RK T (⟨d, .eqnil k1 bb x, none⟩ :: os) e m n k = ThenK T d os e k (evalOp noCall e m n (.eqnil k1 bb x)) := RK_op rfl
theorem RK_un {uo : UnOp} {x : O} : RK T (⟨d, .un uo x, none⟩ :: os) e m n k = ThenK T d os e k (evalOp noCall e m n (.un uo x)) := RK_op rfl
theorem RK_conv {ik : IntKind} {x : O} : RK T (⟨d, .conv ik x, none⟩ :: os) e m n k = ThenK T d os e k (evalOp noCall e m n (.conv ik x)) := RK_op rfl
theorem RK_mkfn {k1 : Nat} {xs : List O} : RK T (⟨d, .mkfn k1 xs, none⟩ :: os) e m n k = ThenK T d os e k (evalOp noCall e m n (.mkfn k1 xs)) := RK_op rfl
theorem RK_mkslice {zz : List Cell} {k1 : Nat} {k2 : Nat} {x : O} {y : O} : RK T (⟨d, .mkslice zz k1 k2 x y, none⟩ :: os) e m n k = ThenK T d os e k (evalOp noCall e m n (.mkslice zz k1 k2 x y)) := RK_op rfl
theorem RK_slS {k1 : Nat} {x : O} {l1 : Option O} {l2 : Option O} {l3 : Option O} : RK T (⟨d, .slS k1 x l1 l2 l3, none⟩ :: os) e m n k = ThenK T d os e k (evalOp noCall e m n (.slS k1 x l1 l2 l3)) := RK_op rfl
theorem RK_slA {k1 : Nat} {k2 : Nat} {x : O} {l1 : Option O} {l2 : Option O} {l3 : Option O} : RK T (⟨d, .slA k1 k2 x l1 l2 l3, none⟩ :: os) e m n k = ThenK T d os e k (evalOp noCall e m n (.slA k1 k2 x l1 l2 l3)) := RK_op rfl
theorem RK_fadr {k1 : Nat} {x : O} : RK T (⟨d, .fadr k1 x, none⟩ :: os) e m n k = ThenK T d os e k (evalOp noCall e m n (.fadr k1 x)) := RK_op rfl
theorem RK_fld {k1 : Nat} {k2 : Nat} {bb : Bool} {x : O} : RK T (⟨d, .fld k1 k2 bb x, none⟩ :: os) e m n k = ThenK T d os e k (evalOp noCall e m n (.fld k1 k2 bb x)) := RK_op rfl
theorem RK_iadrA {k1 : Nat} {k2 : Nat} {x : O} {y : O} : RK T (⟨d, .iadrA k1 k2 x y, none⟩ :: os) e m n k = ThenK T d os e k (evalOp noCall e m n (.iadrA k1 k2 x y)) := RK_op rfl
theorem RK_iadrS {k1 : Nat} {x : O} {y : O} : RK T (⟨d, .iadrS k1 x y, none⟩ :: os) e m n k = ThenK T d os e k (evalOp noCall e m n (.iadrS k1 x y)) := RK_op rfl
theorem RK_idxA {k1 : Nat} {k2 : Nat} {bb : Bool} {x : O} {y : O} : RK T (⟨d, .idxA k1 k2 bb x y, none⟩ :: os) e m n k = ThenK T d os e k (evalOp noCall e m n (.idxA k1 k2 bb x y)) := RK_op rfl
theorem RK_ext {x : O} {k1 : Nat} : RK T (⟨d, .ext x k1, none⟩ :: os) e m n k = ThenK T d os e k (evalOp noCall e m n (.ext x k1)) := RK_op rfl
theorem RK_lenC {k1 : Nat} : RK T (⟨d, .lenC k1, none⟩ :: os) e m n k = ThenK T d os e k (evalOp noCall e m n (.lenC k1)) := RK_op rfl
theorem RK_cap {x : O} : RK T (⟨d, .cap x, none⟩ :: os) e m n k = ThenK T d os e k (evalOp noCall e m n (.cap x)) := RK_op rfl
theorem RK_app {k1 : Nat} {k2 : Nat} {x : O} {y : O} : RK T (⟨d, .app k1 k2 x y, none⟩ :: os) e m n k = ThenK T d os e k (evalOp noCall e m n (.app k1 k2 x y)) := RK_op rfl
theorem RK_cpy {k1 : Nat} {x : O} {y : O} : RK T (⟨d, .cpy k1 x y, none⟩ :: os) e m n k = ThenK T d os e k (evalOp noCall e m n (.cpy k1 x y)) := RK_op rfl
theorem RK_mn {xs : List O} : RK T (⟨d, .mn xs, none⟩ :: os) e m n k = ThenK T d os e k (evalOp noCall e m n (.mn xs)) := RK_op rfl
theorem RK_mx {xs : List O} : RK T (⟨d, .mx xs, none⟩ :: os) e m n k = ThenK T d os e k (evalOp noCall e m n (.mx xs)) := RK_op rfl
theorem RK_carry {bb : Bool} {xs : List O} : RK T (⟨d, .carry bb xs, none⟩ :: os) e m n k = ThenK T d os e k (evalOp noCall e m n (.carry bb xs)) := RK_op rfl
theorem RK_clr {zz : List Cell} {k1 : Nat} {x : O} : RK T (⟨d, .clr zz k1 x, none⟩ :: os) e m n k = ThenK T d os e k (evalOp noCall e m n (.clr zz k1 x)) := RK_op rfl
theorem RK_len {x : O} : RK T (⟨d, .len x, none⟩ :: os) e m n k = ThenK T d os e k ((lenO (evO e x)).map fun l => (RI l, m, n)) := by
  unfold RK
  rw [R_len]
  cases lenO (evO e x) with
  | none => rfl
  | some x => rfl
theorem ThenK_some {r : Reg} : ThenK T d os e k (some (r, m, n)) = RK T os (putE e d r) m n k := rfl
theorem RK_guard {t : Nat} {w : Bool} : RK T (⟨d, op, some (some t, w)⟩ :: os) e m n k = GK T (boolOf (e t)) w d op os e m n k := R_guard
theorem GK_tt : GK T (some true) true d op os e m n k = RK T (⟨d, op, none⟩ :: os) e m n k := by simp [GK]
theorem GK_ff : GK T (some false) false d op os e m n k = RK T (⟨d, op, none⟩ :: os) e m n k := by simp [GK]
theorem GK_tf : GK T (some true) false d op os e m n k = RK T os (putE e d (.tup [])) m n k := by simp [GK]
theorem GK_ft : GK T (some false) true d op os e m n k = RK T os (putE e d (.tup [])) m n k := by simp [GK]
theorem GK_none {w : Bool} : GK T none w d op os e m n k = RK T os (putE e d (.tup [])) m n k := by simp [GK]
theorem QK_some {r : Reg} : QK T d os e m n k (some r) = (r.flat = true ∧ RK T os (putE e d r) m n k) := rfl
theorem RK_callQ {f : Nat} {xs : List O} : RK T (⟨d, .call .q f xs, none⟩ :: os) e m n k = QK T d os e m n k (callF T f (evOs e xs) (frz m) n) := by
  unfold RK
  rw [R_call]
  simp only [doCall, callF]
  cases callR T f (evOs e xs) (frz m) n with
  | none => rfl
  | some x =>
    obtain ⟨r, m', n'⟩ := x
    simp only [Option.map_some, QK]
    split
    · rename_i h; simp [Then, h, RK]
    · rename_i h; simp [Then, h]
theorem RK_callZ {g f : Nat} {xs : List O} : RK T (⟨d, .call (.z g) f xs, none⟩ :: os) e m n k = (flats (evOs e xs) = true ∧ QK T d os e m n k (callF T f (evOs e xs) (fun _ => none) g)) := by
  unfold RK
  rw [R_call]
  simp only [doCall, callF]
  by_cases hf : flats (evOs e xs) = true
  · rw [if_pos hf]
    cases callR T f (evOs e xs) (fun _ => none) g with
    | none => simp [Then, QK]
    | some x =>
      obtain ⟨r, m', n'⟩ := x
      simp only [Option.map_some, QK, hf, true_and]
      split
      · rename_i h; simp [Then, h, RK]
      · rename_i h; simp [Then, h]
  · rw [if_neg hf]
    simp [Then, hf]
theorem VK_clo {md : Mode} {as_ : List Reg} {f : Nat} {caps : List Cell} : VK T d md as_ os e m n k (.one (.clo f caps)) = RK T (⟨d, .call md f ((as_ ++ caps.map Reg.one).map O.c), none⟩ :: os) e m n k := rfl
theorem RK_callV {md : Mode} {x : O} {xs : List O} : RK T (⟨d, .callv md x xs, none⟩ :: os) e m n k = VK T d md (evOs e xs) os e m n k (evO e x) := by
  unfold VK
  split
  · rename_i f caps hx
    unfold RK
    apply propext
    constructor
    · rintro ⟨k, e', m', n', h1, h2⟩
      refine ⟨k, e', m', n', ?_, h2⟩
      simp only [evalOps, wantedS, evalOp, evOs_c] at h1 ⊢
      rw [hx] at h1
      exact h1
    · exact fun h => R_callv hx h
  · rename_i hx
    apply propext
    constructor
    · rintro ⟨k, e', m', n', h1, h2⟩
      simp only [evalOps, wantedS, evalOp] at h1
      cases h1
    · exact fun h => h.elim
theorem RK_callk {f : Nat} {xs : List O} (h : Fn T f (evOs e xs) (frz m) n (fun r m' n' => RK T os (putE e d r) (unfrz m n m') (max n n') k)) : RK T (⟨d, .call .k f xs, none⟩ :: os) e m n k := R_callk h
theorem RK_callw {f : Nat} {xs : List O} (h : Fn T f (evOs e xs) m n (fun r m' n' => RK T os (putE e d r) m' n' k)) : RK T (⟨d, .call .w f xs, none⟩ :: os) e m n k := R_callw h
theorem RK_callq {f : Nat} {xs : List O} (h : Fn T f (evOs e xs) (frz m) n (fun r _ _ => r.flat = true ∧ RK T os (putE e d r) m n k)) : RK T (⟨d, .call .q f xs, none⟩ :: os) e m n k := R_callq h
theorem RK_callz {g f : Nat} {xs : List O} (hf : flats (evOs e xs) = true) (h : Fn T f (evOs e xs) (fun _ => none) g (fun r _ _ => r.flat = true ∧ RK T os (putE e d r) m n k)) : RK T (⟨d, .call (.z g) f xs, none⟩ :: os) e m n k := R_callz hf h
theorem Fn_ofK {f : Nat} {fn : SFun} {a : List Reg} {m : Mem} {n : Nat} {Q : Reg → Mem → Nat → Prop} (hT : T f = some fn) (hl : a.length ≤ fn.nt)
    (h : XK T fn.body ⟨fun t => a.getD t (.tup []), m, n⟩ (.fin fn.res Q)) : Fn T f a m n Q := Fn_of hT hl h

/-- A loop of a known number of rounds. -/
theorem XK_iter {T : Nat → Option SFun} {b : SC} {k : Kt} (inv : Nat → St → Prop) (N : Nat)
    (h : ∀ B, B = b → (∀ i, i < N → ∀ s, inv i s → (∀ s', inv (i + 1) s' → XK T (.loop B) s' k) → XK T b s (.lp B k)) ∧ (∀ s, inv N s → XK T b s (.lp B k))) :
    ∀ i, i ≤ N → ∀ s, inv i s → XK T (.loop b) s k := by
  obtain ⟨h1, h2⟩ := h b rfl
  intro i hi
  obtain ⟨d, hd⟩ : ∃ d, d = N - i := ⟨_, rfl⟩
  induction d generalizing i with
  | zero =>
    intro s hs
    have : i = N := by omega
    subst this
    rw [XK_loop]
    exact h2 s hs
  | succ d ih =>
    intro s hs
    rw [XK_loop]
    exact h1 i (by omega) s hs (fun s' hs' => ih (i + 1) (by omega) (by omega) s' hs')

/-- A loop whose measure goes down. -/
theorem XK_down {T : Nat → Option SFun} {b : SC} {k : Kt} (inv : Nat → St → Prop)
    (h : ∀ B, B = b → ∀ d s, inv d s → (∀ d' s', d' < d → inv d' s' → XK T (.loop B) s' k) → XK T b s (.lp B k)) : ∀ d s, inv d s → XK T (.loop b) s k := by
  intro d
  induction d using Nat.strongRecOn with
  | _ d ih =>
    intro s hs
    rw [XK_loop]
    exact h b rfl d s hs (fun d' s' hd hs' => ih d' hd s' hs')

/-! forks -/
theorem FK_split {t : Bool} (h1 : t = true → XK T a s k) (h2 : t = false → XK T b s k) : FK T (RB t) a b s k := by
  cases t
  · rw [FK_false]; exact h2 rfl
  · rw [FK_true]; exact h1 rfl
theorem GK_split {t w : Bool} (h1 : t = w → RK T (⟨d, op, none⟩ :: os) e m n k) (h2 : t = !w → RK T os (putE e d (.tup [])) m n k) : GK T (some t) w d op os e m n k := by
  unfold GK
  by_cases h : t = w
  · rw [if_pos (by rw [h])]; exact h1 h
  · rw [if_neg (fun e => h (Option.some.inj e))]
    exact h2 (by cases t <;> cases w <;> simp_all)
end

theorem rd_of {m : Mem} {id off k : Nat} {b : Blk} (h : m id = some b) : rd m id off k = rdB b off k := by unfold rd rdB; rw [h]
theorem rd_updn {m : Mem} {k id off j : Nat} : rd (upd m k none) id off j = if id = k then none else rd m id off j := by
  unfold rd
  by_cases h : id = k
  · subst h; rw [upd_same, if_pos rfl]
  · rw [upd_ne _ _ h, if_neg h]
theorem frz_at {m : Mem} {id : Nat} : frz m id = (m id).map fun b => ⟨b.cells, false⟩ := rfl
theorem ite_both {c : Prop} [Decidable c] {p q : Prop} (h1 : c → p) (h2 : ¬ c → q) : if c then p else q := by
  by_cases h : c
  · rw [if_pos h]; exact h1 h
  · rw [if_neg h]; exact h2 h

theorem mem_frz {m : Mem} {id : Nat} {b : Blk} (h : m id = some b) : frz m id = some ⟨b.cells, false⟩ := by unfold frz; rw [h]; rfl
theorem Cell.flat_sc {v : Value} : Cell.flat (.sc v) = true := rfl
theorem Cell.flat_ptr {a b : Nat} : Cell.flat (.ptr a b) = false := rfl
theorem Reg.flat_one {c : Cell} : Reg.flat (.one c) = c.flat := rfl
theorem Reg.flat_agg {cs : List Cell} : Reg.flat (.agg cs) = cs.all Cell.flat := rfl
theorem Reg.flat_tup {rs : List Reg} : Reg.flat (.tup rs) = flats rs := rfl
theorem flats_nil : flats [] = true := rfl
theorem flats_cons {r : Reg} {rs : List Reg} : flats (r :: rs) = (r.flat && flats rs) := rfl
theorem callF_closed {T : Nat → Option SFun} {k f : Nat} {a : List Reg} {m : Mem} {n : Nat} {r : Reg} (h : (run T k f a m n).map (·.1) = some r) : callF T f a m n = some r := by
  obtain ⟨x, h1, h2⟩ := Option.map_eq_some_iff.1 h
  unfold callF
  rw [callR_of h1]
  exact congrArg some h2

theorem um0 {a : Int} : (0 ≤ a % 18446744073709551616) = True := eq_true (Int.emod_nonneg _ (by decide))
theorem um1 {a : Int} : (a % 18446744073709551616 < 18446744073709551616) = True := eq_true (Int.emod_lt_of_pos _ (by decide))
/-! ### the numbers of blocks -/
section
variable {n k id a b : Nat}
theorem nadd : n + k + 1 = n + (k + 1) := Nat.add_assoc _ _ _
theorem na_eq : (n = n + k) = (k = 0) := by apply propext; omega
theorem na_eq' : (n + k = n) = (k = 0) := by apply propext; omega
theorem na_lt : (n < n + k) = (0 < k) := by apply propext; omega
theorem na_ee : (n + a = n + b) = (a = b) := by apply propext; omega
theorem na_ll : (n + a < n + b) = (a < b) := by apply propext; omega
theorem na_ne (h : id < n) : (id = n + k) = False := eq_false (by omega)
theorem na_ne' (h : id < n) : (n + k = id) = False := eq_false (by omega)
theorem na_tt (h : id < n) : (id < n + k) = True := eq_true (by omega)
theorem na_0 (h : id < n) : (id = n) = False := eq_false (by omega)
theorem na_0' (h : id < n) : (n = id) = False := eq_false (by omega)
end
end Go.Proofs.Ytoakdmjpbachdaa.Sy

/- An evaluator of a part of Go's operations over a memory of its own, part eighteen: numbers of all kinds. Conditions: those that each theorem names. -/
namespace Go.Proofs.Ytoakdmjpbachdaa.Sy
open Go
set_option linter.unusedVariables false
set_option linter.unusedSimpArgs false

abbrev U (n : Int) : Cell := .sc (.int .u64 n)
abbrev RU (n : Int) : Reg := .one (.sc (.int .u64 n))

section
variable {k k' : IntKind} {a b : Int}
theorem bV_add : binV .add (.int k a) (.int k b) = some (.int k (k.wrap (a + b))) := by simp [binV]
theorem bV_sub : binV .sub (.int k a) (.int k b) = some (.int k (k.wrap (a - b))) := by simp [binV]
theorem bV_mul : binV .mul (.int k a) (.int k b) = some (.int k (k.wrap (a * b))) := by simp [binV]
theorem bV_eql : binV .eql (.int k a) (.int k b) = some (.bool (decide (a = b))) := by
  simp only [binV, if_true, Option.some.injEq, Value.bool.injEq]
  by_cases h : a = b <;> simp [h]
theorem bV_neq : binV .neq (.int k a) (.int k b) = some (.bool (!decide (a = b))) := by
  simp only [binV, if_true, Option.some.injEq, Value.bool.injEq]
  by_cases h : a = b <;> simp [h]
theorem bV_lss : binV .lss (.int k a) (.int k b) = some (.bool (decide (a < b))) := by simp [binV]
theorem bV_leq : binV .leq (.int k a) (.int k b) = some (.bool (decide (a ≤ b))) := by simp [binV]
theorem bV_gtr : binV .gtr (.int k a) (.int k b) = some (.bool (decide (b < a))) := by simp [binV]
theorem bV_geq : binV .geq (.int k a) (.int k b) = some (.bool (decide (b ≤ a))) := by simp [binV]
theorem bV_quo (h : (b = 0) = False) : binV .quo (.int k a) (.int k b) = some (.int k (k.wrap (a.tdiv b))) := by simp [binV, h]
theorem bV_rem (h : (b = 0) = False) : binV .rem (.int k a) (.int k b) = some (.int k (a.tmod b)) := by simp [binV, h]
theorem bV_shr (h : 0 ≤ b) : binV .shr (.int k a) (.int k' b) = some (.int k (a / 2 ^ min b.toNat k.bits)) := by
  have : ¬ b < 0 := by omega
  simp only [binV, this, if_false]
  rw [Int.fdiv_eq_ediv_of_nonneg _ (Int.le_of_lt (Int.pow_pos (by decide)))]
theorem bV_shl (h : 0 ≤ b) : binV .shl (.int k a) (.int k' b) = some (.int k (k.wrap (a * 2 ^ min b.toNat k.bits))) := by
  have : ¬ b < 0 := by omega
  simp only [binV, this, if_false]
theorem uV_not {t : Bool} : unV .not (.bool t) = some (.bool !t) := rfl
theorem uV_neg : unV .neg (.int k a) = some (.int k (k.wrap (0 - a))) := rfl
end

theorem wrapU (n : Int) : IntKind.u64.wrap n = n % 18446744073709551616 := IntKind.wrap_u64 n
theorem wrapI (n : Int) : IntKind.i64.wrap n = Go.RowKit.wrap64 n := by
  simp [IntKind.wrap, IntKind.bits, IntKind.signed, Go.RowKit.wrap64]
  omega

theorem bits_and {k : IntKind} {a b : Int} : binV .and (.int k a) (.int k b) = some (.int k (Go.bits .and k a b)) := by
  simp [binV, Go.bits]
theorem bits_or {k : IntKind} {a b : Int} : binV .or (.int k a) (.int k b) = some (.int k (Go.bits .or k a b)) := by
  simp [binV, Go.bits]
theorem bits_xor {k : IntKind} {a b : Int} : binV .xor (.int k a) (.int k b) = some (.int k (Go.bits .xor k a b)) := by
  simp [binV, Go.bits]

def mnI (a b : Int) : Int := if b < a then b else a
def mxI (a b : Int) : Int := if a < b then b else a
theorem minI_two {kd : IntKind} (a b : Int) : minI a [.one (.sc (.int kd b))] = some (mnI a b) := by simp [minI, mnI]
theorem maxI_two {kd : IntKind} (a b : Int) : maxI a [.one (.sc (.int kd b))] = some (mxI a b) := by simp [maxI, mxI]
theorem maxI_three {kd kd' : IntKind} (a b c : Int) : maxI a [.one (.sc (.int kd b)), .one (.sc (.int kd' c))] = some (mxI (mxI a b) c) := rfl
end Go.Proofs.Ytoakdmjpbachdaa.Sy

/- Plain numbers of 128 bits: products, parts, signs. Conditions: those that each theorem names. -/
namespace Go.Proofs.Ytoakdmjpbachdaa.Sy
open Go Go.RowKit

/-- The sign. -/
def sgn (x : Int) : Int := if 0 < x then 1 else if x < 0 then -1 else 0
theorem sgn_pos {x : Int} (h : 0 < x) : sgn x = 1 := if_pos h
theorem sgn_neg {x : Int} (h : x < 0) : sgn x = -1 := by unfold sgn; rw [if_neg (by omega), if_pos h]
theorem sgn_zero : sgn 0 = 0 := rfl
theorem sgn_eq_one {x : Int} : sgn x = 1 ↔ 0 < x := by unfold sgn; split <;> (try split) <;> omega
theorem sgn_eq_neg {x : Int} : sgn x = -1 ↔ x < 0 := by unfold sgn; split <;> (try split) <;> omega
theorem sgn_eq_zero {x : Int} : sgn x = 0 ↔ x = 0 := by unfold sgn; split <;> (try split) <;> omega
theorem sgn_neg' (x : Int) : sgn (-x) = -sgn x := by unfold sgn; split <;> split <;> (try split) <;> omega
theorem sgn_bd (x : Int) : -1 ≤ sgn x ∧ sgn x ≤ 1 := by unfold sgn; split <;> (try split) <;> omega
theorem w64 {n : Int} (h : -9223372036854775808 ≤ n ∧ n ≤ 9223372036854775807) : wrap64 n = n := by unfold wrap64; omega
theorem w64' {n : Int} (h1 : -9223372036854775808 ≤ n) (h2 : n ≤ 9223372036854775807) : wrap64 n = n := by unfold wrap64; omega
theorem wu64 (n : Int) : IntKind.u64.wrap n = n % 18446744073709551616 := IntKind.wrap_u64 n

/-- A product's parts. -/
theorem mul64_int (x y : Int) (hx0 : 0 ≤ x) (hx : x < 18446744073709551616) (hy0 : 0 ≤ y) (hy : y < 18446744073709551616) :
    IntKind.u64.wrap ((IntKind.u64.wrap ((IntKind.u64.wrap ((x / 4294967296) * (y / 4294967296))) + ((IntKind.u64.wrap ((IntKind.u64.wrap ((x / 4294967296) * (Go.bits .and .u64 y 4294967295))) + ((IntKind.u64.wrap ((Go.bits .and .u64 x 4294967295) * (Go.bits .and .u64 y 4294967295))) / 4294967296))) / 4294967296))) + ((IntKind.u64.wrap ((Go.bits .and .u64 (IntKind.u64.wrap ((IntKind.u64.wrap ((x / 4294967296) * (Go.bits .and .u64 y 4294967295))) + ((IntKind.u64.wrap ((Go.bits .and .u64 x 4294967295) * (Go.bits .and .u64 y 4294967295))) / 4294967296))) 4294967295) + (IntKind.u64.wrap ((Go.bits .and .u64 x 4294967295) * (y / 4294967296))))) / 4294967296)) = x * y / 18446744073709551616 := by
  obtain ⟨a, rfl⟩ := Int.eq_ofNat_of_zero_le hx0
  obtain ⟨b, rfl⟩ := Int.eq_ofNat_of_zero_le hy0
  have ha : a < 18446744073709551616 := by omega
  have hb : b < 18446744073709551616 := by omega
  obtain ⟨h1, h2, h3, h4⟩ := Lib.mul64_hi a b ha hb
  rw [and_low32 _ (by omega) (by omega), and_low32 _ (by omega) (by omega)]
  have e1 : ((a : Int) / 4294967296) = ((a / 4294967296 : Nat) : Int) := by omega
  have e2 : ((b : Int) / 4294967296) = ((b / 4294967296 : Nat) : Int) := by omega
  have e3 : ((a : Int) % 4294967296) = ((a % 4294967296 : Nat) : Int) := by omega
  have e4 : ((b : Int) % 4294967296) = ((b % 4294967296 : Nat) : Int) := by omega
  rw [e1, e2, e3, e4]
  have q1 := Lib.half_mul_le (a := a / 4294967296) (b := b / 4294967296) (by omega) (by omega)
  have q2 := Lib.half_mul_le (a := a / 4294967296) (b := b % 4294967296) (by omega) (by omega)
  have q3 := Lib.half_mul_le (a := a % 4294967296) (b := b / 4294967296) (by omega) (by omega)
  have q4 := Lib.half_mul_le (a := a % 4294967296) (b := b % 4294967296) (by omega) (by omega)
  have hm : ((a : Int) * (b : Int)) / 18446744073709551616 = ((a * b / 18446744073709551616 : Nat) : Int) := by
    rw [Int.natCast_ediv, Int.natCast_mul]
    rfl
  rw [hm, ← h4]
  simp only [← Int.natCast_mul]
  generalize (a / 4294967296) * (b / 4294967296) = p at *
  generalize (a / 4294967296) * (b % 4294967296) = q at *
  generalize (a % 4294967296) * (b / 4294967296) = r at *
  generalize (a % 4294967296) * (b % 4294967296) = s at *
  have w1 : IntKind.u64.wrap (s : Int) = (s : Int) := by rw [wu64]; omega
  have w2 : IntKind.u64.wrap (q : Int) = (q : Int) := by rw [wu64]; omega
  have w3 : IntKind.u64.wrap (p : Int) = (p : Int) := by rw [wu64]; omega
  have w4 : IntKind.u64.wrap (r : Int) = (r : Int) := by rw [wu64]; omega
  rw [w1, w2, w3, w4]
  have w5 : IntKind.u64.wrap ((q : Int) + (s : Int) / 4294967296) = ((q + s / 4294967296 : Nat) : Int) := by rw [wu64]; omega
  rw [w5]
  rw [and_low32 _ (by omega) (by omega)]
  simp only [wu64]
  omega

/-- A number of 128 bits, told by its parts. -/
theorem parts_hi {p : Int} {hi lo : Int} (h : p = hi * 18446744073709551616 + lo) (h0 : 0 ≤ lo) (h1 : lo < 18446744073709551616) : p / 18446744073709551616 = hi ∧ p % 18446744073709551616 = lo := by omega

theorem mul_bd {a b : Int} (ha : -9223372036854775808 ≤ a) (ha' : a ≤ 9223372036854775807) (hb : -9223372036854775808 ≤ b) (hb' : b ≤ 9223372036854775807) :
    -85070591730234615856620279821087277056 ≤ a * b ∧ a * b ≤ 85070591730234615865843651857942052864 := by
  have key : ∀ x y : Int, 0 ≤ x → x ≤ 9223372036854775808 → 0 ≤ y → y ≤ 9223372036854775808 → 0 ≤ x * y ∧ x * y ≤ 85070591730234615865843651857942052864 := by
    intro x y h1 h2 h3 h4
    exact ⟨Int.mul_nonneg h1 h3, Int.le_trans (Int.mul_le_mul_of_nonneg_right h2 h3) (by omega)⟩
  have key2 : ∀ x y : Int, 0 ≤ x → x ≤ 9223372036854775807 → 0 ≤ y → y ≤ 9223372036854775808 → 0 ≤ x * y ∧ x * y ≤ 85070591730234615856620279821087277056 := by
    intro x y h1 h2 h3 h4
    exact ⟨Int.mul_nonneg h1 h3, Int.le_trans (Int.mul_le_mul_of_nonneg_right h2 h3) (by omega)⟩
  rcases Int.le_total 0 a with h | h <;> rcases Int.le_total 0 b with h' | h'
  · have := key a b h (by omega) h' (by omega); omega
  · have := key2 a (-b) h (by omega) (by omega) (by omega); rw [Int.mul_neg] at this; omega
  · have := key2 b (-a) h' (by omega) (by omega) (by omega); rw [Int.mul_neg, Int.mul_comm] at this; omega
  · have := key (-a) (-b) (by omega) (by omega) (by omega) (by omega); rw [Int.neg_mul_neg] at this; omega

/-- Of two ints as_ unsigned numbers, less what the signs count too much: the product's parts. -/
theorem signed_mul (a b : Int) (ha : -9223372036854775808 ≤ a) (ha' : a ≤ 9223372036854775807) (hb : -9223372036854775808 ≤ b) (hb' : b ≤ 9223372036854775807) :
    wrap64 ((a % 18446744073709551616) * (b % 18446744073709551616) / 18446744073709551616 - (if a < 0 then b % 18446744073709551616 else 0) - (if b < 0 then a % 18446744073709551616 else 0)) = a * b / 18446744073709551616 ∧
      (a % 18446744073709551616) * (b % 18446744073709551616) % 18446744073709551616 = a * b % 18446744073709551616 := by
  have hbd := mul_bd ha ha' hb hb'
  have e1 : a % 18446744073709551616 = if a < 0 then a + 18446744073709551616 else a := by split <;> omega
  have e2 : b % 18446744073709551616 = if b < 0 then b + 18446744073709551616 else b := by split <;> omega
  rw [e1, e2]
  by_cases h1 : a < 0 <;> by_cases h2 : b < 0
  · simp only [if_pos h1, if_pos h2]
    have : (a + 18446744073709551616) * (b + 18446744073709551616) = a * b + 18446744073709551616 * (a + b + 18446744073709551616) := by rw [Int.add_mul, Int.mul_add, Int.mul_add, Int.mul_add, Int.mul_add, Int.mul_comm a 18446744073709551616]; omega
    rw [this]
    generalize a * b = p at *
    unfold wrap64
    omega
  · simp only [if_pos h1, if_neg h2]
    have : (a + 18446744073709551616) * b = a * b + 18446744073709551616 * b := by rw [Int.add_mul]
    rw [this]
    generalize a * b = p at *
    unfold wrap64
    omega
  · simp only [if_neg h1, if_pos h2]
    have : a * (b + 18446744073709551616) = a * b + 18446744073709551616 * a := by rw [Int.mul_add, Int.mul_comm a 18446744073709551616]
    rw [this]
    generalize a * b = p at *
    unfold wrap64
    omega
  · simp only [if_neg h1, if_neg h2]
    generalize a * b = p at *
    unfold wrap64
    exact ⟨by omega, trivial⟩
end Go.Proofs.Ytoakdmjpbachdaa.Sy

/- Package wide walked: products, order. Conditions: those that each theorem names. -/
namespace Go.Proofs.Ytoakdmjpbachdaa.Sy
open Go Go.Proofs Go.RowKit
set_option linter.unusedSimpArgs false
set_option linter.unusedVariables false
set_option maxRecDepth 20000
attribute [local go_sem] XK_seq XK_block XK_skip XK_exit XK_ret XK_cond XK_reg XK_dreg XK_ureg KN_seq KN_blk KN_lp KN_chk KN_chku KN_top KN_fin KX_seq KX_lp KX_blk KX_chk KX_top KR_seq KR_blk KR_lp KR_chk KR_top KR_fin FK_true FK_false RK_nil RK_mv RK_pick RK_alloc RK_box RK_build RK_bslice RK_load1 RK_loadA RK_store RK_nilchk RK_bin RK_beq RK_eqv RK_eqnil RK_un RK_conv RK_mkfn RK_mkslice RK_slS RK_slA RK_fadr RK_fld RK_iadrA RK_iadrS RK_idxA RK_ext RK_lenC RK_cap RK_app RK_cpy RK_mn RK_mx RK_len RK_carry RK_clr carryR um0 um1 ThenK_some RK_guard GK_tt GK_ff GK_tf GK_ft GK_none QK_some RK_callQ RK_callZ VK_clo RK_callV
  evalOp evO evOs upd_at unfrz_at putE_some putE_none boolOf_b boolOf_tup Option.map_some evRes pack_one pack_two pack_three pack_none List.getD_cons_zero List.getD_cons_succ getD_nil
  Option.some.injEq exists_eq_left' Reg.cs? fillC setL List.set_cons_zero List.set_cons_succ List.length_cons List.length_nil rd_upd rd_updn rdB wr List.drop_zero List.drop_succ_cons List.take_succ_cons List.take_zero List.getElem?_cons_zero List.getElem?_cons_succ
  ix Int.toNat_zero lenO_sl lenO_nil nadd na_eq na_eq' na_lt na_ee na_ll na_ne na_ne' na_tt
attribute [local go_sem] Reg.flat_one Reg.flat_agg Reg.flat_tup flats_nil flats_cons Cell.flat_sc Cell.flat_ptr List.all_cons List.all_nil disOk safeOk safeR decide_eq_true_eq decide_eq_false_iff_not
  List.map_cons List.map_nil List.cons_append List.nil_append List.append_nil evalOp.capsOf Bool.false_bne Bool.bne_false Bool.true_bne Bool.bne_true bne_self_eq_false beq_self_eq_true Bool.not_not Bool.false_and Bool.and_false Bool.true_or Bool.or_true beq_iff_eq eqCells
  Bool.true_beq Bool.false_beq Bool.not_eq_true' Bool.not_eq_eq_eq_not Bool.not_eq_false' and_false false_and frz_at idOf noId Option.isSome_some Bool.and_eq_true
attribute [local go_sem] wr_eq bV_add bV_sub bV_mul bV_eql bV_neq bV_lss bV_leq bV_gtr bV_geq bV_quo bV_rem bV_shr bV_shl uV_not uV_neg wrapU bits_and bits_or bits_xor IntKind.bits Nat.min_eq_left Nat.min_eq_right Nat.min_self
attribute [local go_sem] bne_iff_ne Int.cast_ofNat_Int Nat.zero_add Nat.add_zero and_self and_true true_and ne_eq not_false_eq_true not_true_eq_false decide_true decide_false Bool.false_eq_true Bool.not_true Bool.not_false Bool.true_and Bool.and_true Bool.or_false Bool.false_or Bool.and_self

/-- A number of 128 bits. -/
abbrev wN (v : Int) : Reg := .agg [I (v / 18446744073709551616), U (v % 18446744073709551616)]

theorem v_Mul64 (x y : Int) (hx0 : 0 ≤ x) (hx : x < 18446744073709551616) (hy0 : 0 ≤ y) (hy : y < 18446744073709551616) (m : Mem) (n : Nat) :
    callF TA 57 [RU x, RU y] m n = some (.tup [RU (x * y / 18446744073709551616), RU (x * y % 18446744073709551616)]) := by
  refine callF_of (Fn_ofK (fn := F57) rfl (by simp [F57]) ?_)
  rw [← mul64_int x y hx0 hx hy0 hy]
  try simp only [r57_0, r57_1, r57_2, r57_3, r57_4, r57_5, r57_6, r57_7, r57_8, r57_9, r57_10, r57_11, c57, F57, go_sem, Int.reduceTMod, Int.reduceTDiv, Int.reduceDiv, Int.reduceMod, Int.reduceAdd, Int.reduceSub, Int.reduceMul, Int.reduceNeg, Int.reducePow, Int.reduceEq, ↓reduceIte, Nat.reduceEqDiff, Nat.reduceAdd, Nat.reduceMul, Nat.reduceLeDiff, Nat.reduceSub, Nat.reduceLT, Int.reduceToNat, Int.reduceLT, Int.reduceLE, reduceCtorEq]
  repeat' ((first | refine FK_split (fun h_ => ?_) (fun h_ => ?_) | refine GK_split (fun h_ => ?_) (fun h_ => ?_) | refine ite_both (fun h_ => ?_) (fun h_ => ?_)) <;> (try simp only [decide_eq_true_eq, decide_eq_false_iff_not, Bool.not_true, Bool.not_false, Bool.not_eq_true', Bool.not_eq_false', Bool.not_eq_eq_eq_not, Decidable.not_not] at h_) <;> (try simp only [r57_0, r57_1, r57_2, r57_3, r57_4, r57_5, r57_6, r57_7, r57_8, r57_9, r57_10, r57_11, c57, F57, h_, go_sem, Int.reduceTMod, Int.reduceTDiv, Int.reduceDiv, Int.reduceMod, Int.reduceAdd, Int.reduceSub, Int.reduceMul, Int.reduceNeg, Int.reducePow, Int.reduceEq, ↓reduceIte, Nat.reduceEqDiff, Nat.reduceAdd, Nat.reduceMul, Nat.reduceLeDiff, Nat.reduceSub, Nat.reduceLT, Int.reduceToNat, Int.reduceLT, Int.reduceLE, reduceCtorEq]))
theorem v_wMul (a b : Int) (ha : -9223372036854775808 ≤ a) (ha' : a ≤ 9223372036854775807) (hb : -9223372036854775808 ≤ b) (hb' : b ≤ 9223372036854775807) (m : Mem) (n : Nat) :
    callF TA 51 [RI a, RI b] m n = some (wN (a * b)) := by
  refine callF_of (Fn_ofK (fn := F51) rfl (by simp [F51]) ?_)
  obtain ⟨h1, h2⟩ := signed_mul a b ha ha' hb hb'
  have e := fun m n => v_Mul64 (a % 18446744073709551616) (b % 18446744073709551616) (by omega) (by omega) (by omega) (by omega) m n
  have key : ∀ z : Int, wrap64 (z % 18446744073709551616) = wrap64 z := by intro z; unfold wrap64; omega
  have key3 : ∀ z v : Int, wrap64 (z % 18446744073709551616 - v) = wrap64 (z - v) := by intro z v; unfold wrap64; omega
  have key2 : ∀ z v : Int, wrap64 ((z % 18446744073709551616 - v) % 18446744073709551616) = wrap64 (z - v) := by intro z v; unfold wrap64; omega
  by_cases c1 : a < 0 <;> by_cases c2 : b < 0 <;> simp only [c1, c2, if_true, if_false, Int.sub_zero] at h1
  all_goals simp only [r51_0, r51_1, r51_2, r51_3, r51_4, r51_5, r51_6, c51, F51, e, c1, c2, wrapI, key, key3, key2, h1, h2, go_sem, Int.reduceTMod, Int.reduceTDiv, Int.reduceDiv, Int.reduceMod, Int.reduceAdd, Int.reduceSub, Int.reduceMul, Int.reduceNeg, Int.reducePow, Int.reduceEq, ↓reduceIte, Nat.reduceEqDiff, Nat.reduceAdd, Nat.reduceMul, Nat.reduceLeDiff, Nat.reduceSub, Nat.reduceLT, Int.reduceToNat, Int.reduceLT, Int.reduceLE, reduceCtorEq]
theorem v_isNaN (a : Int) (m : Mem) (n : Nat) : callF TA 62 [RI a] m n = some (RB false) := by
  refine callF_of (Fn_ofK (fn := F62) rfl (by simp [F62]) ?_)
  try simp only [r62_0, r62_1, c62, F62, go_sem, Int.reduceTMod, Int.reduceTDiv, Int.reduceDiv, Int.reduceMod, Int.reduceAdd, Int.reduceSub, Int.reduceMul, Int.reduceNeg, Int.reducePow, Int.reduceEq, ↓reduceIte, Nat.reduceEqDiff, Nat.reduceAdd, Nat.reduceMul, Nat.reduceLeDiff, Nat.reduceSub, Nat.reduceLT, Int.reduceToNat, Int.reduceLT, Int.reduceLE, reduceCtorEq]
  repeat' ((first | refine FK_split (fun h_ => ?_) (fun h_ => ?_) | refine GK_split (fun h_ => ?_) (fun h_ => ?_) | refine ite_both (fun h_ => ?_) (fun h_ => ?_)) <;> (try simp only [decide_eq_true_eq, decide_eq_false_iff_not, Bool.not_true, Bool.not_false, Bool.not_eq_true', Bool.not_eq_false', Bool.not_eq_eq_eq_not, Decidable.not_not] at h_) <;> (try simp only [r62_0, r62_1, c62, F62, h_, go_sem, Int.reduceTMod, Int.reduceTDiv, Int.reduceDiv, Int.reduceMod, Int.reduceAdd, Int.reduceSub, Int.reduceMul, Int.reduceNeg, Int.reducePow, Int.reduceEq, ↓reduceIte, Nat.reduceEqDiff, Nat.reduceAdd, Nat.reduceMul, Nat.reduceLeDiff, Nat.reduceSub, Nat.reduceLT, Int.reduceToNat, Int.reduceLT, Int.reduceLE, reduceCtorEq]))
theorem v_isNaNu (a : Int) (m : Mem) (n : Nat) : callF TA 63 [RU a] m n = some (RB false) := by
  refine callF_of (Fn_ofK (fn := F63) rfl (by simp [F63]) ?_)
  try simp only [r63_0, r63_1, c63, F63, go_sem, Int.reduceTMod, Int.reduceTDiv, Int.reduceDiv, Int.reduceMod, Int.reduceAdd, Int.reduceSub, Int.reduceMul, Int.reduceNeg, Int.reducePow, Int.reduceEq, ↓reduceIte, Nat.reduceEqDiff, Nat.reduceAdd, Nat.reduceMul, Nat.reduceLeDiff, Nat.reduceSub, Nat.reduceLT, Int.reduceToNat, Int.reduceLT, Int.reduceLE, reduceCtorEq]
  repeat' ((first | refine FK_split (fun h_ => ?_) (fun h_ => ?_) | refine GK_split (fun h_ => ?_) (fun h_ => ?_) | refine ite_both (fun h_ => ?_) (fun h_ => ?_)) <;> (try simp only [decide_eq_true_eq, decide_eq_false_iff_not, Bool.not_true, Bool.not_false, Bool.not_eq_true', Bool.not_eq_false', Bool.not_eq_eq_eq_not, Decidable.not_not] at h_) <;> (try simp only [r63_0, r63_1, c63, F63, h_, go_sem, Int.reduceTMod, Int.reduceTDiv, Int.reduceDiv, Int.reduceMod, Int.reduceAdd, Int.reduceSub, Int.reduceMul, Int.reduceNeg, Int.reducePow, Int.reduceEq, ↓reduceIte, Nat.reduceEqDiff, Nat.reduceAdd, Nat.reduceMul, Nat.reduceLeDiff, Nat.reduceSub, Nat.reduceLT, Int.reduceToNat, Int.reduceLT, Int.reduceLE, reduceCtorEq]))
theorem sgn_sub (a b : Int) : sgn (a - b) = if a < b then -1 else if b < a then 1 else 0 := by unfold sgn; split <;> split <;> (try split) <;> omega
theorem v_Cmp (a b : Int) (m : Mem) (n : Nat) : callF TA 59 [RI a, RI b] m n = some (RI (sgn (a - b))) := by
  refine callF_of (Fn_ofK (fn := F59) rfl (by simp [F59]) ?_)
  rw [sgn_sub]
  try simp only [r59_0, r59_1, r59_2, r59_3, r59_4, r59_5, r59_6, r59_7, r59_8, r59_9, r59_10, r59_11, r59_12, r59_13, c59, F59, v_isNaN, go_sem, Int.reduceTMod, Int.reduceTDiv, Int.reduceDiv, Int.reduceMod, Int.reduceAdd, Int.reduceSub, Int.reduceMul, Int.reduceNeg, Int.reducePow, Int.reduceEq, ↓reduceIte, Nat.reduceEqDiff, Nat.reduceAdd, Nat.reduceMul, Nat.reduceLeDiff, Nat.reduceSub, Nat.reduceLT, Int.reduceToNat, Int.reduceLT, Int.reduceLE, reduceCtorEq]
  repeat' ((first | refine FK_split (fun h_ => ?_) (fun h_ => ?_) | refine GK_split (fun h_ => ?_) (fun h_ => ?_) | refine ite_both (fun h_ => ?_) (fun h_ => ?_)) <;> (try simp only [decide_eq_true_eq, decide_eq_false_iff_not, Bool.not_true, Bool.not_false, Bool.not_eq_true', Bool.not_eq_false', Bool.not_eq_eq_eq_not, Decidable.not_not] at h_) <;> (try simp only [r59_0, r59_1, r59_2, r59_3, r59_4, r59_5, r59_6, r59_7, r59_8, r59_9, r59_10, r59_11, r59_12, r59_13, c59, F59, v_isNaN, h_, go_sem, Int.reduceTMod, Int.reduceTDiv, Int.reduceDiv, Int.reduceMod, Int.reduceAdd, Int.reduceSub, Int.reduceMul, Int.reduceNeg, Int.reducePow, Int.reduceEq, ↓reduceIte, Nat.reduceEqDiff, Nat.reduceAdd, Nat.reduceMul, Nat.reduceLeDiff, Nat.reduceSub, Nat.reduceLT, Int.reduceToNat, Int.reduceLT, Int.reduceLE, reduceCtorEq]))
theorem v_Cmpu (a b : Int) (m : Mem) (n : Nat) : callF TA 60 [RU a, RU b] m n = some (RI (sgn (a - b))) := by
  refine callF_of (Fn_ofK (fn := F60) rfl (by simp [F60]) ?_)
  rw [sgn_sub]
  try simp only [r60_0, r60_1, r60_2, r60_3, r60_4, r60_5, r60_6, r60_7, r60_8, r60_9, r60_10, r60_11, r60_12, r60_13, c60, F60, v_isNaNu, go_sem, Int.reduceTMod, Int.reduceTDiv, Int.reduceDiv, Int.reduceMod, Int.reduceAdd, Int.reduceSub, Int.reduceMul, Int.reduceNeg, Int.reducePow, Int.reduceEq, ↓reduceIte, Nat.reduceEqDiff, Nat.reduceAdd, Nat.reduceMul, Nat.reduceLeDiff, Nat.reduceSub, Nat.reduceLT, Int.reduceToNat, Int.reduceLT, Int.reduceLE, reduceCtorEq]
  repeat' ((first | refine FK_split (fun h_ => ?_) (fun h_ => ?_) | refine GK_split (fun h_ => ?_) (fun h_ => ?_) | refine ite_both (fun h_ => ?_) (fun h_ => ?_)) <;> (try simp only [decide_eq_true_eq, decide_eq_false_iff_not, Bool.not_true, Bool.not_false, Bool.not_eq_true', Bool.not_eq_false', Bool.not_eq_eq_eq_not, Decidable.not_not] at h_) <;> (try simp only [r60_0, r60_1, r60_2, r60_3, r60_4, r60_5, r60_6, r60_7, r60_8, r60_9, r60_10, r60_11, r60_12, r60_13, c60, F60, v_isNaNu, h_, go_sem, Int.reduceTMod, Int.reduceTDiv, Int.reduceDiv, Int.reduceMod, Int.reduceAdd, Int.reduceSub, Int.reduceMul, Int.reduceNeg, Int.reducePow, Int.reduceEq, ↓reduceIte, Nat.reduceEqDiff, Nat.reduceAdd, Nat.reduceMul, Nat.reduceLeDiff, Nat.reduceSub, Nat.reduceLT, Int.reduceToNat, Int.reduceLT, Int.reduceLE, reduceCtorEq]))
theorem v_Or (a b : Int) (id : Nat) (m : Mem) (n : Nat) (hm : m id = some ⟨[I a, I b], false⟩) :
    callF TA 58 [.one (.sl id 0 2 (some 2) 1)] m n = some (RI (if a ≠ 0 then a else b)) := by
  refine callF_of (Fn_ofK (fn := F58) rfl (by simp [F58]) ?_)
  by_cases ha : a = 0 <;> by_cases hb : b = 0
  all_goals
    try simp only [r58_0, r58_1, r58_2, r58_3, r58_4, r58_5, r58_6, r58_7, r58_8, c58, F58, l58_0, XK_loop, hm, ha, hb, go_sem, Int.reduceTMod, Int.reduceTDiv, Int.reduceDiv, Int.reduceMod, Int.reduceAdd, Int.reduceSub, Int.reduceMul, Int.reduceNeg, Int.reducePow, Int.reduceEq, ↓reduceIte, Nat.reduceEqDiff, Nat.reduceAdd, Nat.reduceMul, Nat.reduceLeDiff, Nat.reduceSub, Nat.reduceLT, Int.reduceToNat, Int.reduceLT, Int.reduceLE, reduceCtorEq]
    repeat' ((first | refine FK_split (fun h_ => ?_) (fun h_ => ?_) | refine GK_split (fun h_ => ?_) (fun h_ => ?_) | refine ite_both (fun h_ => ?_) (fun h_ => ?_)) <;> (try simp only [decide_eq_true_eq, decide_eq_false_iff_not, Bool.not_true, Bool.not_false, Bool.not_eq_true', Bool.not_eq_false', Bool.not_eq_eq_eq_not, Decidable.not_not] at h_) <;> (try simp only [r58_0, r58_1, r58_2, r58_3, r58_4, r58_5, r58_6, r58_7, r58_8, c58, F58, l58_0, XK_loop, hm, ha, hb, h_, go_sem, Int.reduceTMod, Int.reduceTDiv, Int.reduceDiv, Int.reduceMod, Int.reduceAdd, Int.reduceSub, Int.reduceMul, Int.reduceNeg, Int.reducePow, Int.reduceEq, ↓reduceIte, Nat.reduceEqDiff, Nat.reduceAdd, Nat.reduceMul, Nat.reduceLeDiff, Nat.reduceSub, Nat.reduceLT, Int.reduceToNat, Int.reduceLT, Int.reduceLE, reduceCtorEq]))
/-- The order of two numbers of 128 bits. -/
def cmpN (h l h' l' : Int) : Int := if h < h' then -1 else if h' < h then 1 else sgn (l - l')
theorem v_NCmp (h l h' l' : Int) (m : Mem) (n : Nat) : callF TA 52 [.agg [I h, U l], .agg [I h', U l']] m n = some (RI (cmpN h l h' l')) := by
  refine callF_of (Fn_ofK (fn := F52) rfl (by simp [F52]) ?_)
  have e : (if sgn (h - h') ≠ 0 then sgn (h - h') else sgn (l - l')) = cmpN h l h' l' := by
    unfold cmpN
    simp only [sgn_sub]
    repeat' split
    all_goals omega
  rw [← e]
  try simp only [r52_0, r52_1, c52, F52, v_Cmp, v_Cmpu, v_Or (sgn (h - h')) (sgn (l - l')), go_sem, Int.reduceTMod, Int.reduceTDiv, Int.reduceDiv, Int.reduceMod, Int.reduceAdd, Int.reduceSub, Int.reduceMul, Int.reduceNeg, Int.reducePow, Int.reduceEq, ↓reduceIte, Nat.reduceEqDiff, Nat.reduceAdd, Nat.reduceMul, Nat.reduceLeDiff, Nat.reduceSub, Nat.reduceLT, Int.reduceToNat, Int.reduceLT, Int.reduceLE, reduceCtorEq]
  repeat' ((first | refine FK_split (fun h_ => ?_) (fun h_ => ?_) | refine GK_split (fun h_ => ?_) (fun h_ => ?_) | refine ite_both (fun h_ => ?_) (fun h_ => ?_)) <;> (try simp only [decide_eq_true_eq, decide_eq_false_iff_not, Bool.not_true, Bool.not_false, Bool.not_eq_true', Bool.not_eq_false', Bool.not_eq_eq_eq_not, Decidable.not_not] at h_) <;> (try simp only [r52_0, r52_1, c52, F52, v_Cmp, v_Cmpu, v_Or (sgn (h - h')) (sgn (l - l')), h_, go_sem, Int.reduceTMod, Int.reduceTDiv, Int.reduceDiv, Int.reduceMod, Int.reduceAdd, Int.reduceSub, Int.reduceMul, Int.reduceNeg, Int.reducePow, Int.reduceEq, ↓reduceIte, Nat.reduceEqDiff, Nat.reduceAdd, Nat.reduceMul, Nat.reduceLeDiff, Nat.reduceSub, Nat.reduceLT, Int.reduceToNat, Int.reduceLT, Int.reduceLE, reduceCtorEq]))

/- Is a number in room: the reference's walk. Conditions: those that each theorem names. -/
open Go Go.Proofs
set_option linter.unusedSimpArgs false
set_option linter.unusedVariables false

def rm (a : Int) : Bool := decide (-2147483648 ≤ a) && decide (a ≤ 2147483648)
theorem rm_iff {a : Int} : rm a = true ↔ -2147483648 ≤ a ∧ a ≤ 2147483648 := by simp [rm]
theorem v_rIn (a : Int) (m : Mem) (n : Nat) : callF TA 37 [RI a] m n = some (RB (rm a)) := by
  refine callF_of (Fn_ofK (fn := F37) rfl (by simp [F37]) ?_)
  try simp only [r37_0, r37_1, c37, F37, rm, go_sem, Int.reduceTMod, Int.reduceTDiv, Int.reduceDiv, Int.reduceMod, Int.reduceAdd, Int.reduceSub, Int.reduceMul, Int.reduceNeg, Int.reducePow, Int.reduceEq, ↓reduceIte, Nat.reduceEqDiff, Nat.reduceAdd, Nat.reduceMul, Nat.reduceLeDiff, Nat.reduceSub, Nat.reduceLT, Int.reduceToNat, Int.reduceLT, Int.reduceLE, reduceCtorEq]
  repeat' ((first | refine FK_split (fun h_ => ?_) (fun h_ => ?_) | refine GK_split (fun h_ => ?_) (fun h_ => ?_) | refine ite_both (fun h_ => ?_) (fun h_ => ?_)) <;> (try simp only [decide_eq_true_eq, decide_eq_false_iff_not, Bool.not_true, Bool.not_false, Bool.not_eq_true', Bool.not_eq_false', Bool.not_eq_eq_eq_not, Decidable.not_not] at h_) <;> (try simp only [r37_0, r37_1, c37, F37, rm, h_, go_sem, Int.reduceTMod, Int.reduceTDiv, Int.reduceDiv, Int.reduceMod, Int.reduceAdd, Int.reduceSub, Int.reduceMul, Int.reduceNeg, Int.reducePow, Int.reduceEq, ↓reduceIte, Nat.reduceEqDiff, Nat.reduceAdd, Nat.reduceMul, Nat.reduceLeDiff, Nat.reduceSub, Nat.reduceLT, Int.reduceToNat, Int.reduceLT, Int.reduceLE, reduceCtorEq]))


/- Package fixed walked: in room. Conditions: those that each theorem names. -/
open Go Go.Proofs
set_option linter.unusedSimpArgs false
set_option linter.unusedVariables false

theorem v_fIn (a : Int) (m : Mem) (n : Nat) : callF TA 48 [RI a] m n = some (RB (rm a)) := by
  refine callF_of (Fn_ofK (fn := F48) rfl (by simp [F48]) ?_)
  try simp only [r48_0, r48_1, c48, F48, rm, go_sem, Int.reduceTMod, Int.reduceTDiv, Int.reduceDiv, Int.reduceMod, Int.reduceAdd, Int.reduceSub, Int.reduceMul, Int.reduceNeg, Int.reducePow, Int.reduceEq, ↓reduceIte, Nat.reduceEqDiff, Nat.reduceAdd, Nat.reduceMul, Nat.reduceLeDiff, Nat.reduceSub, Nat.reduceLT, Int.reduceToNat, Int.reduceLT, Int.reduceLE, reduceCtorEq]
  repeat' ((first | refine FK_split (fun h_ => ?_) (fun h_ => ?_) | refine GK_split (fun h_ => ?_) (fun h_ => ?_) | refine ite_both (fun h_ => ?_) (fun h_ => ?_)) <;> (try simp only [decide_eq_true_eq, decide_eq_false_iff_not, Bool.not_true, Bool.not_false, Bool.not_eq_true', Bool.not_eq_false', Bool.not_eq_eq_eq_not, Decidable.not_not] at h_) <;> (try simp only [r48_0, r48_1, c48, F48, rm, h_, go_sem, Int.reduceTMod, Int.reduceTDiv, Int.reduceDiv, Int.reduceMod, Int.reduceAdd, Int.reduceSub, Int.reduceMul, Int.reduceNeg, Int.reducePow, Int.reduceEq, ↓reduceIte, Nat.reduceEqDiff, Nat.reduceAdd, Nat.reduceMul, Nat.reduceLeDiff, Nat.reduceSub, Nat.reduceLT, Int.reduceToNat, Int.reduceLT, Int.reduceLE, reduceCtorEq]))

/- Rows of records in memory: read, made, appended. Conditions: those that each theorem names. -/
open Go Go.Proofs
set_option linter.unusedSimpArgs false
set_option linter.unusedVariables false

theorem callF_ex {T : Nat → Option SFun} {f : Nat} {a : List Reg} {m : Mem} {n : Nat} {P : Reg → Prop} (h : Fn T f a m n (fun r _ _ => P r)) : ∃ r, callF T f a m n = some r ∧ P r := by
  obtain ⟨k, r, m', n', h1, h2⟩ := h
  exact ⟨r, by unfold callF; rw [callR_of h1]; rfl, h2⟩
/-- The number of the block that a slice lies in. -/
def sid : Reg → Option Nat
  | .one (.sl id _ _ _ _) => some id
  | _ => none

section
variable {α : Type} {enc : α → List Cell} {sz : Nat}
/-- The register reads as_ these records. -/
def RL (enc : α → List Cell) (sz : Nat) (m : Mem) (n : Nat) (r : Reg) (l : List α) : Prop :=
  (r = rnil ∧ l = []) ∨ ∃ id off cap, r = .one (.sl id off l.length cap sz) ∧ id < n ∧ rd m id off (l.length * sz) = some (l.flatMap enc)
/-- The register is a slice of the call's own, made behind base. -/
def OL (enc : α → List Cell) (sz base : Nat) (m : Mem) (n : Nat) (r : Reg) (l : List α) : Prop :=
  (r = rnil ∧ l = []) ∨ ∃ id, r = .one (.sl id 0 l.length none sz) ∧ base ≤ id ∧ id < n ∧ m id = some ⟨l.flatMap enc, true⟩

theorem OL.nil {base : Nat} {m : Mem} {n : Nat} : OL enc sz base m n rnil [] := Or.inl ⟨rfl, rfl⟩
theorem RL.nil {m : Mem} {n : Nat} : RL enc sz m n rnil [] := Or.inl ⟨rfl, rfl⟩
theorem OL.rl (hsz : ∀ x, (enc x).length = sz) {base : Nat} {m : Mem} {n : Nat} {r : Reg} {l : List α} (h : OL enc sz base m n r l) : RL enc sz m n r l := by
  rcases h with h | ⟨id, h1, h2, h3, h4⟩
  · exact Or.inl h
  · refine Or.inr ⟨id, 0, none, h1, h3, ?_⟩
    have hl := flatMap_len enc sz hsz l
    rw [rd_of h4]
    unfold rdB
    rw [if_pos (by rw [hl]; omega), List.drop_zero, ← hl, List.take_length]
theorem OL.keep {base : Nat} {m m' : Mem} {n n' : Nat} {r : Reg} {l : List α} (h : OL enc sz base m n r l) (hn : n ≤ n') (hm : ∀ id, base ≤ id → id < n → m' id = m id) : OL enc sz base m' n' r l := by
  rcases h with h | ⟨id, h1, h2, h3, h4⟩
  · exact Or.inl h
  · exact Or.inr ⟨id, h1, h2, by omega, by rw [hm id h2 h3]; exact h4⟩
theorem OL.base {b b' : Nat} {m : Mem} {n : Nat} {r : Reg} {l : List α} (h : OL enc sz b m n r l) (hb : b' ≤ b) : OL enc sz b' m n r l := by
  rcases h with h | ⟨id, h1, h2, h3, h4⟩
  · exact Or.inl h
  · exact Or.inr ⟨id, h1, by omega, h3, h4⟩
theorem RL.keep {m m' : Mem} {n n' : Nat} {r : Reg} {l : List α} (h : RL enc sz m n r l) (hn : n ≤ n') (hm : ∀ id, id < n → m' id = m id) : RL enc sz m' n' r l := by
  rcases h with h | ⟨id, off, cap, h1, h2, h3⟩
  · exact Or.inl h
  · refine Or.inr ⟨id, off, cap, h1, by omega, ?_⟩
    have : rd m' id off (l.length * sz) = rd m id off (l.length * sz) := by unfold rd; rw [hm id h2]
    rw [this]; exact h3
theorem RL.keep' {m m' : Mem} {n n' : Nat} {r : Reg} {l : List α} (h : RL enc sz m n r l) (hn : n ≤ n') (hm : ∀ id, sid r = some id → m' id = m id) : RL enc sz m' n' r l := by
  rcases h with h | ⟨id, off, cap, h1, h2, h3⟩
  · exact Or.inl h
  · refine Or.inr ⟨id, off, cap, h1, by omega, ?_⟩
    have : rd m' id off (l.length * sz) = rd m id off (l.length * sz) := by unfold rd; rw [hm id (by rw [h1]; rfl)]
    rw [this]; exact h3
theorem RL.frz {m : Mem} {n : Nat} {r : Reg} {l : List α} (h : RL enc sz m n r l) : RL enc sz (frz m) n r l := by
  rcases h with h | ⟨id, off, cap, h1, h2, h3⟩
  · exact Or.inl h
  · exact Or.inr ⟨id, off, cap, h1, h2, by rw [rd_frz]; exact h3⟩
theorem RL.lt {m : Mem} {n : Nat} {r : Reg} {l : List α} (h : RL enc sz m n r l) {i : Nat} (hi : sid r = some i) : i < n := by
  rcases h with ⟨rfl, _⟩ | ⟨id, off, cap, rfl, h2, h3⟩
  · cases hi
  · simp only [sid, Option.some.injEq] at hi; omega
theorem RL.len {m : Mem} {n : Nat} {r : Reg} {l : List α} (h : RL enc sz m n r l) : lenO r = some (l.length : Int) := by
  rcases h with ⟨rfl, rfl⟩ | ⟨id, off, cap, rfl, h2, h3⟩ <;> rfl
/-- The record i of a slice that is read. -/
theorem RL.at (hsz : ∀ x, (enc x).length = sz) {m : Mem} {n : Nat} {r : Reg} {l : List α} {i : Nat} {x : α} (h : RL enc sz m n r l) (hi : l[i]? = some x) :
    ∃ id off cap, r = .one (.sl id off l.length cap sz) ∧ id < n ∧ rd m id (off + i * sz) sz = some (enc x) := by
  rcases h with ⟨rfl, rfl⟩ | ⟨id, off, cap, h1, h2, h3⟩
  · simp at hi
  · exact ⟨id, off, cap, h1, h2, rd_at hsz h3 hi⟩

/-- One record more. -/
theorem K_push {T : Nat → Option SFun} (hsz : ∀ x, (enc x).length = sz) (hpos : 0 < sz) {base n0 n : Nat} {m0 m : Mem} {r0 : Reg} {l : List α} {p : α} {j by' : Nat} {o : Bool} {d : Option Nat} {os : List SOper} {e : Nat → Reg} {k : Kt}
    (ho : OL enc sz base m0 n0 r0 l) (hn : n0 ≤ n) (hm : ∀ id, base ≤ id → id < n0 → m id = m0 id) (hj : m j = some ⟨enc p, o⟩) (hsm : l.length + 1 ≤ 4294967296) (hbase : base ≤ n)
    (next : ∀ r m', OL enc sz base m' (n + 1) r (l ++ [p]) → (∀ id, id < base → m' id = m id) → (∀ id, id < n → sid r0 ≠ some id → m' id = m id) → RK T os (putE e d r) m' (n + 1) k) :
    ThenK T d os e k (evApp m n sz by' r0 (.one (.sl j 0 1 (some 1) sz))) := by
  have hx : newsOf m sz (.one (.sl j 0 1 (some 1) sz)) = some (1, enc p) := by
    simp only [newsOf, if_true]
    rw [rd_of hj]
    simp [rdB, hsz]
    exact List.take_of_length_le (by rw [hsz]; exact Nat.le_refl _)
  rcases ho with ⟨rfl, rfl⟩ | ⟨id, rfl, h2, h3, h4⟩
  · simp only [evApp, hx]
    rw [if_neg (by omega), if_pos (by omega)]
    refine next _ _ (Or.inr ⟨n, rfl, hbase, by omega, ?_⟩) (fun id hid => upd_ne _ _ (by omega)) (fun id hid _ => upd_ne _ _ (by omega))
    rw [upd_same]
    simp
  · have h5 : m id = some ⟨l.flatMap enc, true⟩ := by rw [hm id h2 h3]; exact h4
    have hl := flatMap_len enc sz hsz l
    have h6 : rd m id 0 (l.length * sz) = some (l.flatMap enc) := by
      rw [rd_of h5]
      unfold rdB
      rw [if_pos (by rw [hl]; omega), List.drop_zero, ← hl, List.take_length]
    simp only [evApp, hx, if_true, h5, h6, Option.map_some, true_and, if_pos hsm]
    refine next _ _ (Or.inr ⟨n, by simp, hbase, by omega, ?_⟩) (fun i hi => ?_) (fun i hi hs => ?_)
    · rw [upd_same]; simp
    · rw [upd_ne _ _ (by omega), upd_ne _ _ (by omega)]
    · rw [upd_ne _ _ (by omega), upd_ne _ _ (fun e => hs (by rw [e]; rfl))]
end

/- Plain numbers: floors. Conditions: those that each theorem names. -/
open Go Go.RowKit

theorem tdiv_tmod {X D : Int} (hD : 0 < D) : (0 ≤ X ∧ X.tdiv D = X / D ∧ X.tmod D = X % D) ∨ (X < 0 ∧ X.tmod D = 0 ∧ X.tdiv D = X / D) ∨ (X < 0 ∧ X.tmod D < 0 ∧ X.tdiv D = X / D + 1) := by
  rcases Int.lt_or_le X 0 with h | h
  · have e1 : X.tdiv D = -((-X) / D) := by
      have : X = -(-X) := by omega
      rw [this, Int.neg_tdiv, Int.tdiv_eq_ediv_of_nonneg (by omega)]
      simp
    have e2 := Int.mul_tdiv_add_tmod X D
    have e3 := Int.mul_ediv_add_emod (-X) D
    have e4 := Int.emod_nonneg (-X) (Int.ne_of_gt hD)
    have e5 := Int.emod_lt_of_pos (-X) hD
    have e6 := Int.mul_ediv_add_emod X D
    have e7 := Int.emod_nonneg X (Int.ne_of_gt hD)
    have e8 := Int.emod_lt_of_pos X hD
    rw [e1, Int.mul_neg] at e2
    rw [e1]
    generalize (-X) / D = q at *
    generalize (-X) % D = r at *
    by_cases c : r = 0
    · refine Or.inr (Or.inl ⟨h, by omega, ?_⟩)
      have h3 : X = D * (-q) := by rw [Int.mul_neg]; omega
      rw [h3, Int.mul_ediv_cancel_left _ (Int.ne_of_gt hD)]
    · refine Or.inr (Or.inr ⟨h, by omega, ?_⟩)
      have h3 : X = (D - r) + D * (-q - 1) := by rw [Int.mul_sub, Int.mul_neg]; omega
      rw [h3, Int.add_mul_ediv_left _ _ (Int.ne_of_gt hD), Int.ediv_eq_zero_of_lt (by omega) (by omega)]
      omega
  · exact Or.inl ⟨h, Int.tdiv_eq_ediv_of_nonneg h, Int.tmod_eq_emod_of_nonneg h⟩
theorem tdiv_floor {X D : Int} (hD : 0 < D) : (if X.tmod D < 0 then X.tdiv D - 1 else X.tdiv D) = X / D := by
  have := Int.emod_nonneg X (Int.ne_of_gt hD)
  rcases tdiv_tmod (X := X) hD with ⟨h1, h2, h3⟩ | ⟨h1, h2, h3⟩ | ⟨h1, h2, h3⟩
  · rw [if_neg (by omega), h2]
  · rw [if_neg (by omega), h3]
  · rw [if_pos h2, h3]; omega
theorem below_floor {X D : Int} (hD : 0 < D) : (if X < X.tdiv D * D then X.tdiv D - 1 else X.tdiv D) = X / D := by
  have e1 := Int.mul_ediv_add_emod X D
  have e2 := Int.emod_nonneg X (Int.ne_of_gt hD)
  have e3 := Int.emod_lt_of_pos X hD
  have e4 := Int.mul_tdiv_add_tmod X D
  rcases tdiv_tmod (X := X) hD with ⟨h1, h2, h3⟩ | ⟨h1, h2, h3⟩ | ⟨h1, h2, h3⟩
  · rw [h2, if_neg (by rw [Int.mul_comm]; omega)]
  · rw [h3, if_neg (by rw [Int.mul_comm]; omega)]
  · rw [if_pos (by rw [Int.mul_comm]; omega), h3]; omega
/-- A quotient, rounded. -/
def rnd (x d : Int) : Int := (2 * x + d) / (2 * d)
theorem rnd_eq {x d : Int} (hd : 0 < d) : rnd x d = if d - (x - x / d * d) ≤ x - x / d * d then x / d + 1 else x / d := by
  unfold rnd
  have e1 := Int.mul_ediv_add_emod x d
  have e2 := Int.emod_nonneg x (Int.ne_of_gt hd)
  have e3 := Int.emod_lt_of_pos x hd
  have e4 : x - x / d * d = x % d := by rw [Int.mul_comm]; omega
  rw [e4]
  generalize x % d = r at *
  have e5 : 2 * x + d = (2 * r + d) + 2 * d * (x / d) := by rw [Int.mul_assoc]; omega
  rw [e5, Int.add_mul_ediv_left _ _ (by omega)]
  split
  · have : (2 * r + d) / (2 * d) = 1 := by
      rw [show 2 * r + d = (2 * r - d) + 2 * d * 1 by omega, Int.add_mul_ediv_left _ _ (by omega), Int.ediv_eq_zero_of_lt (by omega) (by omega)]
      rfl
    omega
  · have : (2 * r + d) / (2 * d) = 0 := Int.ediv_eq_zero_of_lt (by omega) (by omega)
    omega
theorem rnd_le {x d b : Int} (hd : 0 < d) (h : x ≤ b * d) : rnd x d ≤ b := by
  unfold rnd
  have : (2 * x + d) / (2 * d) < b + 1 := Int.ediv_lt_of_lt_mul (by omega) (by rw [Int.add_mul, Int.one_mul, Int.mul_left_comm]; omega)
  omega
theorem rnd_ge {x d b : Int} (hd : 0 < d) (h : b * d ≤ x) : b ≤ rnd x d := by
  unfold rnd
  exact Int.le_ediv_of_mul_le (by omega) (by rw [Int.mul_left_comm]; omega)

/- Points; the reference's quotients walked. Conditions: those that each theorem names. -/
open Go Go.Proofs
set_option linter.unusedSimpArgs false
set_option linter.unusedVariables false

structure Pt where
  x : Int
  y : Int
abbrev Pt.cs (p : Pt) : List Cell := [I p.x, I p.y]
abbrev Pt.r (p : Pt) : Reg := .agg [I p.x, I p.y]
def inP (p : Pt) : Bool := rm p.x && rm p.y
theorem cs2 (p : Pt) : p.cs.length = 2 := rfl
theorem v_PIn (x y : Int) (m : Mem) (n : Nat) : callF TA 34 [.agg [I x, I y]] m n = some (RB (inP ⟨x, y⟩)) := by
  refine callF_of (Fn_ofK (fn := F34) rfl (by simp [F34]) ?_)
  try simp only [r34_0, r34_1, c34, F34, v_fIn, inP, go_sem, Int.reduceTMod, Int.reduceTDiv, Int.reduceDiv, Int.reduceMod, Int.reduceAdd, Int.reduceSub, Int.reduceMul, Int.reduceNeg, Int.reducePow, Int.reduceEq, ↓reduceIte, Nat.reduceEqDiff, Nat.reduceAdd, Nat.reduceMul, Nat.reduceLeDiff, Nat.reduceSub, Nat.reduceLT, Int.reduceToNat, Int.reduceLT, Int.reduceLE, reduceCtorEq]
  repeat' ((first | refine FK_split (fun h_ => ?_) (fun h_ => ?_) | refine GK_split (fun h_ => ?_) (fun h_ => ?_) | refine ite_both (fun h_ => ?_) (fun h_ => ?_)) <;> (try simp only [decide_eq_true_eq, decide_eq_false_iff_not, Bool.not_true, Bool.not_false, Bool.not_eq_true', Bool.not_eq_false', Bool.not_eq_eq_eq_not, Decidable.not_not] at h_) <;> (try simp only [r34_0, r34_1, c34, F34, v_fIn, inP, h_, go_sem, Int.reduceTMod, Int.reduceTDiv, Int.reduceDiv, Int.reduceMod, Int.reduceAdd, Int.reduceSub, Int.reduceMul, Int.reduceNeg, Int.reducePow, Int.reduceEq, ↓reduceIte, Nat.reduceEqDiff, Nat.reduceAdd, Nat.reduceMul, Nat.reduceLeDiff, Nat.reduceSub, Nat.reduceLT, Int.reduceToNat, Int.reduceLT, Int.reduceLE, reduceCtorEq]))
theorem v_Below (x d : Int) (hx : -4611686018427387904 ≤ x ∧ x ≤ 4611686018427387904) (hd : 0 < d) (hd2 : d ≤ 4294967296) (m : Mem) (n : Nat) : callF TA 55 [RI x, RI d] m n = some (RI (x / d)) := by
  refine callF_of (Fn_ofK (fn := F55) rfl (by simp [F55]) ?_)
  have z : (d = 0) = False := eq_false (by omega)
  have hf := below_floor (X := x) (D := d) hd
  have e1 := Int.mul_ediv_add_emod x d
  have e2 := Int.emod_nonneg x (Int.ne_of_gt hd)
  have e3 := Int.emod_lt_of_pos x hd
  have k2 : -4611686018427387904 ≤ x / d := Int.le_ediv_of_mul_le hd (by
      have := Int.mul_le_mul_of_nonneg_left (show (1 : Int) ≤ d by omega) (show (0 : Int) ≤ 4611686018427387904 by decide)
      rw [Int.neg_mul]; omega)
  have k3 : x / d < 4611686018427387905 := Int.ediv_lt_of_lt_mul hd (by
      have := Int.mul_le_mul_of_nonneg_left (show (1 : Int) ≤ d by omega) (show (0 : Int) ≤ 4611686018427387905 by decide)
      omega)
  have hq : x.tdiv d = x / d ∨ x.tdiv d = x / d + 1 := by split at hf <;> omega
  have w1 : IntKind.i64.wrap (x.tdiv d) = x.tdiv d := wr_eq (by omega) (by omega)
  have w2 : IntKind.i64.wrap (x.tdiv d * d) = x.tdiv d * d := by
    have : x.tdiv d * d = d * (x / d) ∨ x.tdiv d * d = d * (x / d) + d := by
      rcases hq with h | h
      · left; rw [h, Int.mul_comm]
      · right; rw [h, Int.mul_comm, Int.mul_add, Int.mul_one]
    exact wr_eq (by omega) (by omega)
  have w3 : IntKind.i64.wrap (x.tdiv d - 1) = x.tdiv d - 1 := wr_eq (by omega) (by omega)
  rw [← hf]
  by_cases c : x < x.tdiv d * d
  all_goals
    try simp only [r55_0, r55_1, r55_2, r55_3, r55_4, c55, F55, z, w1, w2, w3, c, go_sem, Int.reduceTMod, Int.reduceTDiv, Int.reduceDiv, Int.reduceMod, Int.reduceAdd, Int.reduceSub, Int.reduceMul, Int.reduceNeg, Int.reducePow, Int.reduceEq, ↓reduceIte, Nat.reduceEqDiff, Nat.reduceAdd, Nat.reduceMul, Nat.reduceLeDiff, Nat.reduceSub, Nat.reduceLT, Int.reduceToNat, Int.reduceLT, Int.reduceLE, reduceCtorEq]
    repeat' ((first | refine FK_split (fun h_ => ?_) (fun h_ => ?_) | refine GK_split (fun h_ => ?_) (fun h_ => ?_) | refine ite_both (fun h_ => ?_) (fun h_ => ?_)) <;> (try simp only [decide_eq_true_eq, decide_eq_false_iff_not, Bool.not_true, Bool.not_false, Bool.not_eq_true', Bool.not_eq_false', Bool.not_eq_eq_eq_not, Decidable.not_not] at h_) <;> (try simp only [r55_0, r55_1, r55_2, r55_3, r55_4, c55, F55, z, w1, w2, w3, c, h_, go_sem, Int.reduceTMod, Int.reduceTDiv, Int.reduceDiv, Int.reduceMod, Int.reduceAdd, Int.reduceSub, Int.reduceMul, Int.reduceNeg, Int.reducePow, Int.reduceEq, ↓reduceIte, Nat.reduceEqDiff, Nat.reduceAdd, Nat.reduceMul, Nat.reduceLeDiff, Nat.reduceSub, Nat.reduceLT, Int.reduceToNat, Int.reduceLT, Int.reduceLE, reduceCtorEq]))
theorem v_Round (x d : Int) (hx : -2305843009213693952 ≤ x ∧ x ≤ 2305843009213693952) (hd : 0 < d) (hd2 : d ≤ 4294967296) (m : Mem) (n : Nat) : callF TA 45 [RI x, RI d] m n = some (RI (rnd x d)) := by
  refine callF_of (Fn_ofK (fn := F45) rfl (by simp [F45]) ?_)
  have vb := v_Below x d (by omega) hd hd2
  have e1 := Int.mul_ediv_add_emod x d
  have e2 := Int.emod_nonneg x (Int.ne_of_gt hd)
  have e3 := Int.emod_lt_of_pos x hd
  have e4 : x / d * d = d * (x / d) := Int.mul_comm _ _
  have k3 : x / d < 4611686018427387905 := Int.ediv_lt_of_lt_mul hd (by
      have := Int.mul_le_mul_of_nonneg_left (show (1 : Int) ≤ d by omega) (show (0 : Int) ≤ 4611686018427387905 by decide)
      omega)
  have k2 : -4611686018427387904 ≤ x / d := Int.le_ediv_of_mul_le hd (by
      have := Int.mul_le_mul_of_nonneg_left (show (1 : Int) ≤ d by omega) (show (0 : Int) ≤ 4611686018427387904 by decide)
      rw [Int.neg_mul]; omega)
  have w1 : IntKind.i64.wrap (x / d * d) = x / d * d := wr_eq (by omega) (by omega)
  have w2 : IntKind.i64.wrap (x - x / d * d) = x - x / d * d := wr_eq (by omega) (by omega)
  have w3 : IntKind.i64.wrap (d - (x - x / d * d)) = d - (x - x / d * d) := wr_eq (by omega) (by omega)
  have w4 : IntKind.i64.wrap (x / d + 1) = x / d + 1 := wr_eq (by omega) (by omega)
  rw [rnd_eq hd]
  by_cases c : d - (x - x / d * d) ≤ x - x / d * d
  all_goals
    try simp only [r45_0, r45_1, r45_2, r45_3, r45_4, r45_5, c45, F45, vb, w1, w2, w3, w4, c, go_sem, Int.reduceTMod, Int.reduceTDiv, Int.reduceDiv, Int.reduceMod, Int.reduceAdd, Int.reduceSub, Int.reduceMul, Int.reduceNeg, Int.reducePow, Int.reduceEq, ↓reduceIte, Nat.reduceEqDiff, Nat.reduceAdd, Nat.reduceMul, Nat.reduceLeDiff, Nat.reduceSub, Nat.reduceLT, Int.reduceToNat, Int.reduceLT, Int.reduceLE, reduceCtorEq]
    repeat' ((first | refine FK_split (fun h_ => ?_) (fun h_ => ?_) | refine GK_split (fun h_ => ?_) (fun h_ => ?_) | refine ite_both (fun h_ => ?_) (fun h_ => ?_)) <;> (try simp only [decide_eq_true_eq, decide_eq_false_iff_not, Bool.not_true, Bool.not_false, Bool.not_eq_true', Bool.not_eq_false', Bool.not_eq_eq_eq_not, Decidable.not_not] at h_) <;> (try simp only [r45_0, r45_1, r45_2, r45_3, r45_4, r45_5, c45, F45, vb, w1, w2, w3, w4, c, h_, go_sem, Int.reduceTMod, Int.reduceTDiv, Int.reduceDiv, Int.reduceMod, Int.reduceAdd, Int.reduceSub, Int.reduceMul, Int.reduceNeg, Int.reducePow, Int.reduceEq, ↓reduceIte, Nat.reduceEqDiff, Nat.reduceAdd, Nat.reduceMul, Nat.reduceLeDiff, Nat.reduceSub, Nat.reduceLT, Int.reduceToNat, Int.reduceLT, Int.reduceLE, reduceCtorEq]))

/- Lines: too long or not; points of the law. Conditions: those that each theorem names. -/
open Go Go.Proofs
set_option linter.unusedSimpArgs false
set_option linter.unusedVariables false

/-- Is a line too long? -/
def longB (x y : Int) : Bool := decide (536870912 < x) || (decide (x < -536870912) || (decide (536870912 < y) || decide (y < -536870912)))
theorem long_iff {x y : Int} : longB x y = false ↔ (-536870912 ≤ x ∧ x ≤ 536870912) ∧ -536870912 ≤ y ∧ y ≤ 536870912 := by
  simp only [longB, Bool.or_eq_false_iff, decide_eq_false_iff_not]; omega
theorem sq_bd {x y : Int} (h : longB x y = false) : (0 ≤ x * x ∧ x * x ≤ 288230376151711744) ∧ 0 ≤ y * y ∧ y * y ≤ 288230376151711744 := by
  rw [long_iff] at h
  have key : ∀ z : Int, -536870912 ≤ z → z ≤ 536870912 → 0 ≤ z * z ∧ z * z ≤ 288230376151711744 := by
    intro z h1 h2
    rcases Int.le_total 0 z with k | k
    · exact ⟨Int.mul_nonneg k k, by have := Int.mul_le_mul h2 h2 k (by omega); omega⟩
    · have e : z * z = (-z) * (-z) := (Int.neg_mul_neg z z).symm
      rw [e]
      exact ⟨Int.mul_nonneg (by omega) (by omega), by have := Int.mul_le_mul (show -z ≤ 536870912 by omega) (show -z ≤ 536870912 by omega) (by omega) (by omega); omega⟩
  exact ⟨key x h.1.1 h.1.2, key y h.2.1 h.2.2⟩
theorem inP_iff {x y : Int} : inP ⟨x, y⟩ = true ↔ (-2147483648 ≤ x ∧ x ≤ 2147483648) ∧ -2147483648 ≤ y ∧ y ≤ 2147483648 := by
  simp only [inP, Bool.and_eq_true, rm_iff]
theorem sub_wrap {ax ay bx b_y : Int} (ha : inP ⟨ax, ay⟩ = true) (hb : inP ⟨bx, b_y⟩ = true) : IntKind.i64.wrap (bx - ax) = bx - ax ∧ IntKind.i64.wrap (b_y - ay) = b_y - ay := by
  rw [inP_iff] at ha hb
  exact ⟨wr_eq (by omega) (by omega), wr_eq (by omega) (by omega)⟩
theorem v_Long (ax ay bx b_y : Int) (ha : inP ⟨ax, ay⟩ = true) (hb : inP ⟨bx, b_y⟩ = true) (m : Mem) (n : Nat) : callF TA 25 [.agg [I ax, I ay], .agg [I bx, I b_y]] m n = some (RB (longB (bx - ax) (b_y - ay))) := by
  refine callF_of (Fn_ofK (fn := F25) rfl (by simp [F25]) ?_)
  obtain ⟨w1, w2⟩ := sub_wrap ha hb
  try simp only [r25_0, r25_1, r25_2, c25, F25, w1, w2, longB, go_sem, Int.reduceTMod, Int.reduceTDiv, Int.reduceDiv, Int.reduceMod, Int.reduceAdd, Int.reduceSub, Int.reduceMul, Int.reduceNeg, Int.reducePow, Int.reduceEq, ↓reduceIte, Nat.reduceEqDiff, Nat.reduceAdd, Nat.reduceMul, Nat.reduceLeDiff, Nat.reduceSub, Nat.reduceLT, Int.reduceToNat, Int.reduceLT, Int.reduceLE, reduceCtorEq]
  repeat' ((first | refine FK_split (fun h_ => ?_) (fun h_ => ?_) | refine GK_split (fun h_ => ?_) (fun h_ => ?_) | refine ite_both (fun h_ => ?_) (fun h_ => ?_)) <;> (try simp only [decide_eq_true_eq, decide_eq_false_iff_not, Bool.not_true, Bool.not_false, Bool.not_eq_true', Bool.not_eq_false', Bool.not_eq_eq_eq_not, Decidable.not_not] at h_) <;> (try simp only [r25_0, r25_1, r25_2, c25, F25, w1, w2, longB, h_, go_sem, Int.reduceTMod, Int.reduceTDiv, Int.reduceDiv, Int.reduceMod, Int.reduceAdd, Int.reduceSub, Int.reduceMul, Int.reduceNeg, Int.reducePow, Int.reduceEq, ↓reduceIte, Nat.reduceEqDiff, Nat.reduceAdd, Nat.reduceMul, Nat.reduceLeDiff, Nat.reduceSub, Nat.reduceLT, Int.reduceToNat, Int.reduceLT, Int.reduceLE, reduceCtorEq]))
theorem v_lin (x y : Int) (m : Mem) (n : Nat) : callF TA 24 [.agg [I x, I y]] m n = some (RB (inP ⟨x, y⟩)) := by
  refine callF_of (Fn_ofK (fn := F24) rfl (by simp [F24]) ?_)
  try simp only [r24_0, r24_1, c24, F24, v_rIn, inP, go_sem, Int.reduceTMod, Int.reduceTDiv, Int.reduceDiv, Int.reduceMod, Int.reduceAdd, Int.reduceSub, Int.reduceMul, Int.reduceNeg, Int.reducePow, Int.reduceEq, ↓reduceIte, Nat.reduceEqDiff, Nat.reduceAdd, Nat.reduceMul, Nat.reduceLeDiff, Nat.reduceSub, Nat.reduceLT, Int.reduceToNat, Int.reduceLT, Int.reduceLE, reduceCtorEq]
  repeat' ((first | refine FK_split (fun h_ => ?_) (fun h_ => ?_) | refine GK_split (fun h_ => ?_) (fun h_ => ?_) | refine ite_both (fun h_ => ?_) (fun h_ => ?_)) <;> (try simp only [decide_eq_true_eq, decide_eq_false_iff_not, Bool.not_true, Bool.not_false, Bool.not_eq_true', Bool.not_eq_false', Bool.not_eq_eq_eq_not, Decidable.not_not] at h_) <;> (try simp only [r24_0, r24_1, c24, F24, v_rIn, inP, h_, go_sem, Int.reduceTMod, Int.reduceTDiv, Int.reduceDiv, Int.reduceMod, Int.reduceAdd, Int.reduceSub, Int.reduceMul, Int.reduceNeg, Int.reducePow, Int.reduceEq, ↓reduceIte, Nat.reduceEqDiff, Nat.reduceAdd, Nat.reduceMul, Nat.reduceLeDiff, Nat.reduceSub, Nat.reduceLT, Int.reduceToNat, Int.reduceLT, Int.reduceLE, reduceCtorEq]))
theorem v_lref (x y : Int) (m : Mem) (n : Nat) : callF TA 26 [.agg [I x, I y]] m n = some (.agg [I x, I y]) := by
  refine callF_of (Fn_ofK (fn := F26) rfl (by simp [F26]) ?_)
  try simp only [r26_0, r26_1, c26, F26, go_sem, Int.reduceTMod, Int.reduceTDiv, Int.reduceDiv, Int.reduceMod, Int.reduceAdd, Int.reduceSub, Int.reduceMul, Int.reduceNeg, Int.reducePow, Int.reduceEq, ↓reduceIte, Nat.reduceEqDiff, Nat.reduceAdd, Nat.reduceMul, Nat.reduceLeDiff, Nat.reduceSub, Nat.reduceLT, Int.reduceToNat, Int.reduceLT, Int.reduceLE, reduceCtorEq]
  repeat' ((first | refine FK_split (fun h_ => ?_) (fun h_ => ?_) | refine GK_split (fun h_ => ?_) (fun h_ => ?_) | refine ite_both (fun h_ => ?_) (fun h_ => ?_)) <;> (try simp only [decide_eq_true_eq, decide_eq_false_iff_not, Bool.not_true, Bool.not_false, Bool.not_eq_true', Bool.not_eq_false', Bool.not_eq_eq_eq_not, Decidable.not_not] at h_) <;> (try simp only [r26_0, r26_1, c26, F26, h_, go_sem, Int.reduceTMod, Int.reduceTDiv, Int.reduceDiv, Int.reduceMod, Int.reduceAdd, Int.reduceSub, Int.reduceMul, Int.reduceNeg, Int.reducePow, Int.reduceEq, ↓reduceIte, Nat.reduceEqDiff, Nat.reduceAdd, Nat.reduceMul, Nat.reduceLeDiff, Nat.reduceSub, Nat.reduceLT, Int.reduceToNat, Int.reduceLT, Int.reduceLE, reduceCtorEq]))

/- Rows of points walked: is one out of room; are two the same. Conditions: those that each theorem names. -/
open Go Go.Proofs
set_option linter.unusedSimpArgs false
set_option linter.unusedVariables false

abbrev RPt := RL Pt.cs 2
theorem RL.pt {m : Mem} {n : Nat} {r : Reg} {l : List Pt} {i : Nat} {p : Pt} (h : RPt m n r l) (hi : l[i]? = some p) :
    ∃ id off cap b, r = .one (.sl id off l.length cap 2) ∧ id < n ∧ m id = some b ∧ b.cells[off + i * 2]? = some (I p.x) ∧ b.cells[off + (i * 2 + 1)]? = some (I p.y) := by
  obtain ⟨id, off, cap, h1, h2, h3⟩ := h.at cs2 hi
  obtain ⟨b, h4, h5⟩ := rd_cell h3 (a := 0) (c := I p.x) rfl
  obtain ⟨b2, h6, h7⟩ := rd_cell h3 (a := 1) (c := I p.y) rfl
  rw [h4] at h6
  cases h6
  exact ⟨id, off, cap, b, h1, h2, h4, h5, by rw [← Nat.add_assoc]; exact h7⟩
theorem all_snoc {l : List Pt} {i : Nat} {p : Pt} (hp : l[i]? = some p) : (l.take (i + 1)).all inP = ((l.take i).all inP && inP p) := by
  have hi : i < l.length := (List.getElem?_eq_some_iff.1 hp).1
  rw [List.take_add_one, hp, List.all_append]
  simp
theorem w_Index (c : Nat) (hc : ∀ x y m n, callF TA c [.agg [I x, I y]] m n = some (RB (!inP ⟨x, y⟩))) (r : Reg) (l : List Pt) (m : Mem) (n : Nat) (hr : RPt m n r l) (hl : l.length < 4294967296) :
    Fn TA 47 [r, .one (.clo c [])] m n (fun r' _ _ => ∃ k : Int, r' = RI k ∧ ((l.all inP = true ∧ k = -1) ∨ (l.all inP = false ∧ 0 ≤ k))) := by
  refine Fn_ofK (fn := F47) rfl (by simp [F47]) ?_
  have hlen := hr.len
  try simp only [r47_0, r47_1, r47_2, r47_3, r47_4, r47_5, r47_6, r47_7, c47, F47, hlen, go_sem, Int.reduceTMod, Int.reduceTDiv, Int.reduceDiv, Int.reduceMod, Int.reduceAdd, Int.reduceSub, Int.reduceMul, Int.reduceNeg, Int.reducePow, Int.reduceEq, ↓reduceIte, Nat.reduceEqDiff, Nat.reduceAdd, Nat.reduceMul, Nat.reduceLeDiff, Nat.reduceSub, Nat.reduceLT, Int.reduceToNat, Int.reduceLT, Int.reduceLE, reduceCtorEq]
  repeat' ((first | refine FK_split (fun h_ => ?_) (fun h_ => ?_) | refine GK_split (fun h_ => ?_) (fun h_ => ?_) | refine ite_both (fun h_ => ?_) (fun h_ => ?_)) <;> (try simp only [decide_eq_true_eq, decide_eq_false_iff_not, Bool.not_true, Bool.not_false, Bool.not_eq_true', Bool.not_eq_false', Bool.not_eq_eq_eq_not, Decidable.not_not] at h_) <;> (try simp only [r47_0, r47_1, r47_2, r47_3, r47_4, r47_5, r47_6, r47_7, c47, F47, hlen, h_, go_sem, Int.reduceTMod, Int.reduceTDiv, Int.reduceDiv, Int.reduceMod, Int.reduceAdd, Int.reduceSub, Int.reduceMul, Int.reduceNeg, Int.reducePow, Int.reduceEq, ↓reduceIte, Nat.reduceEqDiff, Nat.reduceAdd, Nat.reduceMul, Nat.reduceLeDiff, Nat.reduceSub, Nat.reduceLT, Int.reduceToNat, Int.reduceLT, Int.reduceLE, reduceCtorEq]))
  refine XK_iter (inv := fun i s => s.e 8 = RI i ∧ s.e 7 = RI l.length ∧ s.e 0 = r ∧ s.e 1 = .one (.clo c []) ∧ s.m = m ∧ s.n = n ∧ (l.take i).all inP = true) l.length
    (fun L _ => ⟨fun i hi s hs next => ?_, fun s hs => ?_⟩) 0 (by omega) _ ?_
  · obtain ⟨q8, q7, q0, q1, qm, qn, qa⟩ := hs
    have hp : l[i]? = some l[i] := List.getElem?_eq_getElem hi
    obtain ⟨id, off, cap, hr1, hid, hrd⟩ := hr.at cs2 hp
    generalize l[i] = p at *
    have c2 : ((i : Int) < (l.length : Int)) = True := eq_true (by omega)
    have c3 : (0 ≤ (i : Int)) = True := eq_true (by omega)
    have c7 : IntKind.i64.wrap ((i : Int) + 1) = ((i + 1 : Nat) : Int) := wr_nat (by omega)
    have hsn := all_snoc hp
    rw [hr1] at q0
    cases hin : inP p with
    | true =>
      try simp only [r47_0, r47_1, r47_2, r47_3, r47_4, r47_5, r47_6, r47_7, c47, F47, l47_0, q8, q7, q0, q1, qm, qn, c2, c3, c7, hrd, hc, hin, Int.toNat_natCast, go_sem, Int.reduceTMod, Int.reduceTDiv, Int.reduceDiv, Int.reduceMod, Int.reduceAdd, Int.reduceSub, Int.reduceMul, Int.reduceNeg, Int.reducePow, Int.reduceEq, ↓reduceIte, Nat.reduceEqDiff, Nat.reduceAdd, Nat.reduceMul, Nat.reduceLeDiff, Nat.reduceSub, Nat.reduceLT, Int.reduceToNat, Int.reduceLT, Int.reduceLE, reduceCtorEq]
      repeat' ((first | refine FK_split (fun h_ => ?_) (fun h_ => ?_) | refine GK_split (fun h_ => ?_) (fun h_ => ?_) | refine ite_both (fun h_ => ?_) (fun h_ => ?_)) <;> (try simp only [decide_eq_true_eq, decide_eq_false_iff_not, Bool.not_true, Bool.not_false, Bool.not_eq_true', Bool.not_eq_false', Bool.not_eq_eq_eq_not, Decidable.not_not] at h_) <;> (try simp only [r47_0, r47_1, r47_2, r47_3, r47_4, r47_5, r47_6, r47_7, c47, F47, l47_0, q8, q7, q0, q1, qm, qn, c2, c3, c7, hrd, hc, hin, Int.toNat_natCast, h_, go_sem, Int.reduceTMod, Int.reduceTDiv, Int.reduceDiv, Int.reduceMod, Int.reduceAdd, Int.reduceSub, Int.reduceMul, Int.reduceNeg, Int.reducePow, Int.reduceEq, ↓reduceIte, Nat.reduceEqDiff, Nat.reduceAdd, Nat.reduceMul, Nat.reduceLeDiff, Nat.reduceSub, Nat.reduceLT, Int.reduceToNat, Int.reduceLT, Int.reduceLE, reduceCtorEq]))
      refine next _ ⟨?_, ?_, ?_, ?_, ?_, ?_, ?_⟩
      all_goals simp only [q8, q7, q0, q1, qm, qn, hsn, qa, hin, hr1, go_sem, Int.reduceTMod, Int.reduceTDiv, Int.reduceDiv, Int.reduceMod, Int.reduceAdd, Int.reduceSub, Int.reduceMul, Int.reduceNeg, Int.reducePow, Int.reduceEq, ↓reduceIte, Nat.reduceEqDiff, Nat.reduceAdd, Nat.reduceMul, Nat.reduceLeDiff, Nat.reduceSub, Nat.reduceLT, Int.reduceToNat, Int.reduceLT, Int.reduceLE, reduceCtorEq]
    | false =>
      try simp only [r47_0, r47_1, r47_2, r47_3, r47_4, r47_5, r47_6, r47_7, c47, F47, l47_0, q8, q7, q0, q1, qm, qn, c2, c3, c7, hrd, hc, hin, Int.toNat_natCast, go_sem, Int.reduceTMod, Int.reduceTDiv, Int.reduceDiv, Int.reduceMod, Int.reduceAdd, Int.reduceSub, Int.reduceMul, Int.reduceNeg, Int.reducePow, Int.reduceEq, ↓reduceIte, Nat.reduceEqDiff, Nat.reduceAdd, Nat.reduceMul, Nat.reduceLeDiff, Nat.reduceSub, Nat.reduceLT, Int.reduceToNat, Int.reduceLT, Int.reduceLE, reduceCtorEq]
      repeat' ((first | refine FK_split (fun h_ => ?_) (fun h_ => ?_) | refine GK_split (fun h_ => ?_) (fun h_ => ?_) | refine ite_both (fun h_ => ?_) (fun h_ => ?_)) <;> (try simp only [decide_eq_true_eq, decide_eq_false_iff_not, Bool.not_true, Bool.not_false, Bool.not_eq_true', Bool.not_eq_false', Bool.not_eq_eq_eq_not, Decidable.not_not] at h_) <;> (try simp only [r47_0, r47_1, r47_2, r47_3, r47_4, r47_5, r47_6, r47_7, c47, F47, l47_0, q8, q7, q0, q1, qm, qn, c2, c3, c7, hrd, hc, hin, Int.toNat_natCast, h_, go_sem, Int.reduceTMod, Int.reduceTDiv, Int.reduceDiv, Int.reduceMod, Int.reduceAdd, Int.reduceSub, Int.reduceMul, Int.reduceNeg, Int.reducePow, Int.reduceEq, ↓reduceIte, Nat.reduceEqDiff, Nat.reduceAdd, Nat.reduceMul, Nat.reduceLeDiff, Nat.reduceSub, Nat.reduceLT, Int.reduceToNat, Int.reduceLT, Int.reduceLE, reduceCtorEq]))
      refine ⟨i, rfl, Or.inr ⟨?_, by omega⟩⟩
      rw [List.all_eq_false]
      exact ⟨p, List.mem_of_getElem? hp, by simp [hin]⟩
  · obtain ⟨q8, q7, q0, q1, qm, qn, qa⟩ := hs
    have c2 : ((l.length : Int) < (l.length : Int)) = False := eq_false (by omega)
    rw [List.take_length] at qa
    try simp only [r47_0, r47_1, r47_2, r47_3, r47_4, r47_5, r47_6, r47_7, c47, F47, l47_0, q8, q7, q0, q1, qm, qn, c2, go_sem, Int.reduceTMod, Int.reduceTDiv, Int.reduceDiv, Int.reduceMod, Int.reduceAdd, Int.reduceSub, Int.reduceMul, Int.reduceNeg, Int.reducePow, Int.reduceEq, ↓reduceIte, Nat.reduceEqDiff, Nat.reduceAdd, Nat.reduceMul, Nat.reduceLeDiff, Nat.reduceSub, Nat.reduceLT, Int.reduceToNat, Int.reduceLT, Int.reduceLE, reduceCtorEq]
    repeat' ((first | refine FK_split (fun h_ => ?_) (fun h_ => ?_) | refine GK_split (fun h_ => ?_) (fun h_ => ?_) | refine ite_both (fun h_ => ?_) (fun h_ => ?_)) <;> (try simp only [decide_eq_true_eq, decide_eq_false_iff_not, Bool.not_true, Bool.not_false, Bool.not_eq_true', Bool.not_eq_false', Bool.not_eq_eq_eq_not, Decidable.not_not] at h_) <;> (try simp only [r47_0, r47_1, r47_2, r47_3, r47_4, r47_5, r47_6, r47_7, c47, F47, l47_0, q8, q7, q0, q1, qm, qn, c2, h_, go_sem, Int.reduceTMod, Int.reduceTDiv, Int.reduceDiv, Int.reduceMod, Int.reduceAdd, Int.reduceSub, Int.reduceMul, Int.reduceNeg, Int.reducePow, Int.reduceEq, ↓reduceIte, Nat.reduceEqDiff, Nat.reduceAdd, Nat.reduceMul, Nat.reduceLeDiff, Nat.reduceSub, Nat.reduceLT, Int.reduceToNat, Int.reduceLT, Int.reduceLE, reduceCtorEq]))
    exact ⟨-1, rfl, Or.inl ⟨qa, rfl⟩⟩
  · simp only [List.take_zero, List.all_nil, go_sem, Int.reduceTMod, Int.reduceTDiv, Int.reduceDiv, Int.reduceMod, Int.reduceAdd, Int.reduceSub, Int.reduceMul, Int.reduceNeg, Int.reducePow, Int.reduceEq, ↓reduceIte, Nat.reduceEqDiff, Nat.reduceAdd, Nat.reduceMul, Nat.reduceLeDiff, Nat.reduceSub, Nat.reduceLT, Int.reduceToNat, Int.reduceLT, Int.reduceLE, reduceCtorEq]
theorem v_Contains (c : Nat) (hc : ∀ x y m n, callF TA c [.agg [I x, I y]] m n = some (RB (!inP ⟨x, y⟩))) (r : Reg) (l : List Pt) (m : Mem) (n : Nat) (hr : RPt m n r l) (hl : l.length < 4294967296) :
    callF TA 32 [r, .one (.clo c [])] m n = some (RB (!l.all inP)) := by
  refine callF_of (Fn_ofK (fn := F32) rfl (by simp [F32]) ?_)
  obtain ⟨r1, h1, k, rfl, h2⟩ := callF_ex (w_Index c hc r l (frz m) n hr.frz hl)
  have e : decide (0 ≤ k) = !l.all inP := by
    rcases h2 with ⟨h2, h3⟩ | ⟨h2, h3⟩
    · rw [h2, decide_eq_false (by omega)]; rfl
    · rw [h2, decide_eq_true h3]; rfl
  try simp only [r32_0, r32_1, c32, F32, h1, e, go_sem, Int.reduceTMod, Int.reduceTDiv, Int.reduceDiv, Int.reduceMod, Int.reduceAdd, Int.reduceSub, Int.reduceMul, Int.reduceNeg, Int.reducePow, Int.reduceEq, ↓reduceIte, Nat.reduceEqDiff, Nat.reduceAdd, Nat.reduceMul, Nat.reduceLeDiff, Nat.reduceSub, Nat.reduceLT, Int.reduceToNat, Int.reduceLT, Int.reduceLE, reduceCtorEq]
  repeat' ((first | refine FK_split (fun h_ => ?_) (fun h_ => ?_) | refine GK_split (fun h_ => ?_) (fun h_ => ?_) | refine ite_both (fun h_ => ?_) (fun h_ => ?_)) <;> (try simp only [decide_eq_true_eq, decide_eq_false_iff_not, Bool.not_true, Bool.not_false, Bool.not_eq_true', Bool.not_eq_false', Bool.not_eq_eq_eq_not, Decidable.not_not] at h_) <;> (try simp only [r32_0, r32_1, c32, F32, h1, e, h_, go_sem, Int.reduceTMod, Int.reduceTDiv, Int.reduceDiv, Int.reduceMod, Int.reduceAdd, Int.reduceSub, Int.reduceMul, Int.reduceNeg, Int.reducePow, Int.reduceEq, ↓reduceIte, Nat.reduceEqDiff, Nat.reduceAdd, Nat.reduceMul, Nat.reduceLeDiff, Nat.reduceSub, Nat.reduceLT, Int.reduceToNat, Int.reduceLT, Int.reduceLE, reduceCtorEq]))
theorem v_In07 (r : Reg) (l : List Pt) (m : Mem) (n : Nat) (hr : RPt m n r l) (hl : l.length < 4294967296) : callF TA 15 [r] m n = some (RB (l.all inP)) := by
  refine callF_of (Fn_ofK (fn := F15) rfl (by simp [F15]) ?_)
  have hlen := hr.len
  try simp only [r15_0, r15_1, r15_2, r15_4, r15_5, r15_3, r15_6, c15, F15, hlen, go_sem, Int.reduceTMod, Int.reduceTDiv, Int.reduceDiv, Int.reduceMod, Int.reduceAdd, Int.reduceSub, Int.reduceMul, Int.reduceNeg, Int.reducePow, Int.reduceEq, ↓reduceIte, Nat.reduceEqDiff, Nat.reduceAdd, Nat.reduceMul, Nat.reduceLeDiff, Nat.reduceSub, Nat.reduceLT, Int.reduceToNat, Int.reduceLT, Int.reduceLE, reduceCtorEq]
  repeat' ((first | refine FK_split (fun h_ => ?_) (fun h_ => ?_) | refine GK_split (fun h_ => ?_) (fun h_ => ?_) | refine ite_both (fun h_ => ?_) (fun h_ => ?_)) <;> (try simp only [decide_eq_true_eq, decide_eq_false_iff_not, Bool.not_true, Bool.not_false, Bool.not_eq_true', Bool.not_eq_false', Bool.not_eq_eq_eq_not, Decidable.not_not] at h_) <;> (try simp only [r15_0, r15_1, r15_2, r15_4, r15_5, r15_3, r15_6, c15, F15, hlen, h_, go_sem, Int.reduceTMod, Int.reduceTDiv, Int.reduceDiv, Int.reduceMod, Int.reduceAdd, Int.reduceSub, Int.reduceMul, Int.reduceNeg, Int.reducePow, Int.reduceEq, ↓reduceIte, Nat.reduceEqDiff, Nat.reduceAdd, Nat.reduceMul, Nat.reduceLeDiff, Nat.reduceSub, Nat.reduceLT, Int.reduceToNat, Int.reduceLT, Int.reduceLE, reduceCtorEq]))
  refine XK_iter (inv := fun i s => s.e 3 = RI i ∧ s.e 0 = r ∧ s.m = m ∧ s.n = n ∧ (l.take i).all inP = true) l.length
    (fun L _ => ⟨fun i hi s hs next => ?_, fun s hs => ?_⟩) 0 (by omega) _ ?_
  · obtain ⟨q3, q0, qm, qn, qa⟩ := hs
    have hp : l[i]? = some l[i] := List.getElem?_eq_getElem hi
    obtain ⟨id, off, cap, b, hr1, hid, hb, hx, hy⟩ := RL.pt hr hp
    generalize l[i] = p at *
    have c2 : ((i : Int) < (l.length : Int)) = True := eq_true (by omega)
    have c3 : (0 ≤ (i : Int)) = True := eq_true (by omega)
    have c7 : IntKind.i64.wrap ((i : Int) + 1) = ((i + 1 : Nat) : Int) := wr_nat (by omega)
    have hsn := all_snoc hp
    rw [hr1] at q0
    cases hin : inP p with
    | true =>
      have hin' := hin
      simp only [inP, Bool.and_eq_true] at hin'
      try simp only [r15_0, r15_1, r15_2, r15_4, r15_5, r15_3, r15_6, c15, F15, l15_0, q3, q0, qm, qn, c2, c3, c7, hb, hx, hy, v_rIn, hin'.1, hin'.2, Int.toNat_natCast, go_sem, Int.reduceTMod, Int.reduceTDiv, Int.reduceDiv, Int.reduceMod, Int.reduceAdd, Int.reduceSub, Int.reduceMul, Int.reduceNeg, Int.reducePow, Int.reduceEq, ↓reduceIte, Nat.reduceEqDiff, Nat.reduceAdd, Nat.reduceMul, Nat.reduceLeDiff, Nat.reduceSub, Nat.reduceLT, Int.reduceToNat, Int.reduceLT, Int.reduceLE, reduceCtorEq]
      repeat' ((first | refine FK_split (fun h_ => ?_) (fun h_ => ?_) | refine GK_split (fun h_ => ?_) (fun h_ => ?_) | refine ite_both (fun h_ => ?_) (fun h_ => ?_)) <;> (try simp only [decide_eq_true_eq, decide_eq_false_iff_not, Bool.not_true, Bool.not_false, Bool.not_eq_true', Bool.not_eq_false', Bool.not_eq_eq_eq_not, Decidable.not_not] at h_) <;> (try simp only [r15_0, r15_1, r15_2, r15_4, r15_5, r15_3, r15_6, c15, F15, l15_0, q3, q0, qm, qn, c2, c3, c7, hb, hx, hy, v_rIn, hin'.1, hin'.2, Int.toNat_natCast, h_, go_sem, Int.reduceTMod, Int.reduceTDiv, Int.reduceDiv, Int.reduceMod, Int.reduceAdd, Int.reduceSub, Int.reduceMul, Int.reduceNeg, Int.reducePow, Int.reduceEq, ↓reduceIte, Nat.reduceEqDiff, Nat.reduceAdd, Nat.reduceMul, Nat.reduceLeDiff, Nat.reduceSub, Nat.reduceLT, Int.reduceToNat, Int.reduceLT, Int.reduceLE, reduceCtorEq]))
      refine next _ ⟨?_, ?_, ?_, ?_, ?_⟩
      all_goals simp only [q3, q0, qm, qn, hsn, qa, hin, hr1, go_sem, Int.reduceTMod, Int.reduceTDiv, Int.reduceDiv, Int.reduceMod, Int.reduceAdd, Int.reduceSub, Int.reduceMul, Int.reduceNeg, Int.reducePow, Int.reduceEq, ↓reduceIte, Nat.reduceEqDiff, Nat.reduceAdd, Nat.reduceMul, Nat.reduceLeDiff, Nat.reduceSub, Nat.reduceLT, Int.reduceToNat, Int.reduceLT, Int.reduceLE, reduceCtorEq]
    | false =>
      have hl0 : l.all inP = false := by
        rw [List.all_eq_false]
        exact ⟨p, List.mem_of_getElem? hp, by simp [hin]⟩
      have hin' := hin
      simp only [inP] at hin'
      cases h1 : rm p.x
      all_goals
        rw [h1] at hin'
        (try simp only [Bool.true_and] at hin')
        try simp only [r15_0, r15_1, r15_2, r15_4, r15_5, r15_3, r15_6, c15, F15, l15_0, q3, q0, qm, qn, c2, c3, c7, hb, hx, hy, v_rIn, h1, hin', hl0, Int.toNat_natCast, go_sem, Int.reduceTMod, Int.reduceTDiv, Int.reduceDiv, Int.reduceMod, Int.reduceAdd, Int.reduceSub, Int.reduceMul, Int.reduceNeg, Int.reducePow, Int.reduceEq, ↓reduceIte, Nat.reduceEqDiff, Nat.reduceAdd, Nat.reduceMul, Nat.reduceLeDiff, Nat.reduceSub, Nat.reduceLT, Int.reduceToNat, Int.reduceLT, Int.reduceLE, reduceCtorEq]
        repeat' ((first | refine FK_split (fun h_ => ?_) (fun h_ => ?_) | refine GK_split (fun h_ => ?_) (fun h_ => ?_) | refine ite_both (fun h_ => ?_) (fun h_ => ?_)) <;> (try simp only [decide_eq_true_eq, decide_eq_false_iff_not, Bool.not_true, Bool.not_false, Bool.not_eq_true', Bool.not_eq_false', Bool.not_eq_eq_eq_not, Decidable.not_not] at h_) <;> (try simp only [r15_0, r15_1, r15_2, r15_4, r15_5, r15_3, r15_6, c15, F15, l15_0, q3, q0, qm, qn, c2, c3, c7, hb, hx, hy, v_rIn, h1, hin', hl0, Int.toNat_natCast, h_, go_sem, Int.reduceTMod, Int.reduceTDiv, Int.reduceDiv, Int.reduceMod, Int.reduceAdd, Int.reduceSub, Int.reduceMul, Int.reduceNeg, Int.reducePow, Int.reduceEq, ↓reduceIte, Nat.reduceEqDiff, Nat.reduceAdd, Nat.reduceMul, Nat.reduceLeDiff, Nat.reduceSub, Nat.reduceLT, Int.reduceToNat, Int.reduceLT, Int.reduceLE, reduceCtorEq]))
  · obtain ⟨q3, q0, qm, qn, qa⟩ := hs
    have c2 : ((l.length : Int) < (l.length : Int)) = False := eq_false (by omega)
    rw [List.take_length] at qa
    try simp only [r15_0, r15_1, r15_2, r15_4, r15_5, r15_3, r15_6, c15, F15, l15_0, q3, q0, qm, qn, hlen, c2, qa, go_sem, Int.reduceTMod, Int.reduceTDiv, Int.reduceDiv, Int.reduceMod, Int.reduceAdd, Int.reduceSub, Int.reduceMul, Int.reduceNeg, Int.reducePow, Int.reduceEq, ↓reduceIte, Nat.reduceEqDiff, Nat.reduceAdd, Nat.reduceMul, Nat.reduceLeDiff, Nat.reduceSub, Nat.reduceLT, Int.reduceToNat, Int.reduceLT, Int.reduceLE, reduceCtorEq]
    repeat' ((first | refine FK_split (fun h_ => ?_) (fun h_ => ?_) | refine GK_split (fun h_ => ?_) (fun h_ => ?_) | refine ite_both (fun h_ => ?_) (fun h_ => ?_)) <;> (try simp only [decide_eq_true_eq, decide_eq_false_iff_not, Bool.not_true, Bool.not_false, Bool.not_eq_true', Bool.not_eq_false', Bool.not_eq_eq_eq_not, Decidable.not_not] at h_) <;> (try simp only [r15_0, r15_1, r15_2, r15_4, r15_5, r15_3, r15_6, c15, F15, l15_0, q3, q0, qm, qn, hlen, c2, qa, h_, go_sem, Int.reduceTMod, Int.reduceTDiv, Int.reduceDiv, Int.reduceMod, Int.reduceAdd, Int.reduceSub, Int.reduceMul, Int.reduceNeg, Int.reducePow, Int.reduceEq, ↓reduceIte, Nat.reduceEqDiff, Nat.reduceAdd, Nat.reduceMul, Nat.reduceLeDiff, Nat.reduceSub, Nat.reduceLT, Int.reduceToNat, Int.reduceLT, Int.reduceLE, reduceCtorEq]))
  · simp only [List.take_zero, List.all_nil, go_sem, Int.reduceTMod, Int.reduceTDiv, Int.reduceDiv, Int.reduceMod, Int.reduceAdd, Int.reduceSub, Int.reduceMul, Int.reduceNeg, Int.reducePow, Int.reduceEq, ↓reduceIte, Nat.reduceEqDiff, Nat.reduceAdd, Nat.reduceMul, Nat.reduceLeDiff, Nat.reduceSub, Nat.reduceLT, Int.reduceToNat, Int.reduceLT, Int.reduceLE, reduceCtorEq]

instance : DecidableEq Pt := fun a b => decidable_of_iff (a.x = b.x ∧ a.y = b.y) (by cases a; cases b; simp)
theorem pt_ne {p q : Pt} (h : p ≠ q) : p.x ≠ q.x ∨ p.y ≠ q.y := by
  by_cases h1 : p.x = q.x
  · right; intro h2; exact h (by cases p; cases q; simp_all)
  · exact Or.inl h1
theorem take_snoc_eq {l k : List Pt} {i : Nat} {p q : Pt} (hp : l[i]? = some p) (hq : k[i]? = some q) (h : l.take i = k.take i) (e : p = q) : l.take (i + 1) = k.take (i + 1) := by
  rw [List.take_add_one, List.take_add_one, h, hp, hq, e]
theorem v_same (r1 r2 : Reg) (l k : List Pt) (m : Mem) (n : Nat) (h1 : RPt m n r1 l) (h2 : RPt m n r2 k) (hl : l.length < 4294967296) : callF TA 17 [r1, r2] m n = some (RB (decide (l = k))) := by
  refine callF_of (Fn_ofK (fn := F17) rfl (by simp [F17]) ?_)
  have hlen1 := h1.len
  have hlen2 := h2.len
  by_cases hc : l.length = k.length
  · have hc' : ((l.length : Int) = (k.length : Int)) = True := eq_true (by omega)
    try simp only [r17_0, r17_1, r17_2, r17_3, r17_4, r17_5, r17_6, r17_7, r17_8, r17_9, c17, F17, hlen1, hlen2, hc', go_sem, Int.reduceTMod, Int.reduceTDiv, Int.reduceDiv, Int.reduceMod, Int.reduceAdd, Int.reduceSub, Int.reduceMul, Int.reduceNeg, Int.reducePow, Int.reduceEq, ↓reduceIte, Nat.reduceEqDiff, Nat.reduceAdd, Nat.reduceMul, Nat.reduceLeDiff, Nat.reduceSub, Nat.reduceLT, Int.reduceToNat, Int.reduceLT, Int.reduceLE, reduceCtorEq]
    repeat' ((first | refine FK_split (fun h_ => ?_) (fun h_ => ?_) | refine GK_split (fun h_ => ?_) (fun h_ => ?_) | refine ite_both (fun h_ => ?_) (fun h_ => ?_)) <;> (try simp only [decide_eq_true_eq, decide_eq_false_iff_not, Bool.not_true, Bool.not_false, Bool.not_eq_true', Bool.not_eq_false', Bool.not_eq_eq_eq_not, Decidable.not_not] at h_) <;> (try simp only [r17_0, r17_1, r17_2, r17_3, r17_4, r17_5, r17_6, r17_7, r17_8, r17_9, c17, F17, hlen1, hlen2, hc', h_, go_sem, Int.reduceTMod, Int.reduceTDiv, Int.reduceDiv, Int.reduceMod, Int.reduceAdd, Int.reduceSub, Int.reduceMul, Int.reduceNeg, Int.reducePow, Int.reduceEq, ↓reduceIte, Nat.reduceEqDiff, Nat.reduceAdd, Nat.reduceMul, Nat.reduceLeDiff, Nat.reduceSub, Nat.reduceLT, Int.reduceToNat, Int.reduceLT, Int.reduceLE, reduceCtorEq]))
    refine XK_iter (inv := fun i s => s.e 13 = RI i ∧ s.e 12 = RI l.length ∧ s.e 0 = r1 ∧ s.e 1 = r2 ∧ s.m = m ∧ s.n = n ∧ l.take i = k.take i) l.length
      (fun L _ => ⟨fun i hi s hs next => ?_, fun s hs => ?_⟩) 0 (by omega) _ ?_
    · obtain ⟨q13, q12, q0, q1, qm, qn, qa⟩ := hs
      have hp : l[i]? = some l[i] := List.getElem?_eq_getElem hi
      have hq : k[i]? = some (k[i]'(by omega)) := List.getElem?_eq_getElem (by omega)
      obtain ⟨id, off, cap, b, hr1, hid, hb, hx, hy⟩ := RL.pt h1 hp
      obtain ⟨id2, off2, cap2, b2, hr2, hid2, hb2, hx2, hy2⟩ := RL.pt h2 hq
      generalize l[i] = p at *
      generalize (k[i]'(by omega)) = q at *
      have c2 : ((i : Int) < (l.length : Int)) = True := eq_true (by omega)
      have c2' : ((i : Int) < (k.length : Int)) = True := eq_true (by omega)
      have c3 : (0 ≤ (i : Int)) = True := eq_true (by omega)
      have c7 : IntKind.i64.wrap ((i : Int) + 1) = ((i + 1 : Nat) : Int) := wr_nat (by omega)
      rw [hr1] at q0
      rw [hr2] at q1
      by_cases e : p = q
      · subst e
        try simp only [r17_0, r17_1, r17_2, r17_3, r17_4, r17_5, r17_6, r17_7, r17_8, r17_9, c17, F17, l17_0, q13, q12, q0, q1, qm, qn, c2, c2', c3, c7, hb, hx, hy, hb2, hx2, hy2, Int.toNat_natCast, go_sem, Int.reduceTMod, Int.reduceTDiv, Int.reduceDiv, Int.reduceMod, Int.reduceAdd, Int.reduceSub, Int.reduceMul, Int.reduceNeg, Int.reducePow, Int.reduceEq, ↓reduceIte, Nat.reduceEqDiff, Nat.reduceAdd, Nat.reduceMul, Nat.reduceLeDiff, Nat.reduceSub, Nat.reduceLT, Int.reduceToNat, Int.reduceLT, Int.reduceLE, reduceCtorEq]
        repeat' ((first | refine FK_split (fun h_ => ?_) (fun h_ => ?_) | refine GK_split (fun h_ => ?_) (fun h_ => ?_) | refine ite_both (fun h_ => ?_) (fun h_ => ?_)) <;> (try simp only [decide_eq_true_eq, decide_eq_false_iff_not, Bool.not_true, Bool.not_false, Bool.not_eq_true', Bool.not_eq_false', Bool.not_eq_eq_eq_not, Decidable.not_not] at h_) <;> (try simp only [r17_0, r17_1, r17_2, r17_3, r17_4, r17_5, r17_6, r17_7, r17_8, r17_9, c17, F17, l17_0, q13, q12, q0, q1, qm, qn, c2, c2', c3, c7, hb, hx, hy, hb2, hx2, hy2, Int.toNat_natCast, h_, go_sem, Int.reduceTMod, Int.reduceTDiv, Int.reduceDiv, Int.reduceMod, Int.reduceAdd, Int.reduceSub, Int.reduceMul, Int.reduceNeg, Int.reducePow, Int.reduceEq, ↓reduceIte, Nat.reduceEqDiff, Nat.reduceAdd, Nat.reduceMul, Nat.reduceLeDiff, Nat.reduceSub, Nat.reduceLT, Int.reduceToNat, Int.reduceLT, Int.reduceLE, reduceCtorEq]))
        refine next _ ⟨?_, ?_, ?_, ?_, ?_, ?_, take_snoc_eq hp hq qa rfl⟩
        all_goals simp only [q13, q12, q0, q1, qm, qn, hr1, hr2, go_sem, Int.reduceTMod, Int.reduceTDiv, Int.reduceDiv, Int.reduceMod, Int.reduceAdd, Int.reduceSub, Int.reduceMul, Int.reduceNeg, Int.reducePow, Int.reduceEq, ↓reduceIte, Nat.reduceEqDiff, Nat.reduceAdd, Nat.reduceMul, Nat.reduceLeDiff, Nat.reduceSub, Nat.reduceLT, Int.reduceToNat, Int.reduceLT, Int.reduceLE, reduceCtorEq]
      · have hne : l ≠ k := fun h => e (by rw [h, hq] at hp; exact (Option.some.inj hp).symm)
        have hf : decide (l = k) = false := decide_eq_false hne
        by_cases hxx : p.x = q.x
        · have hyy : ¬ p.y = q.y := (pt_ne e).resolve_left (fun h => h hxx)
          try simp only [r17_0, r17_1, r17_2, r17_3, r17_4, r17_5, r17_6, r17_7, r17_8, r17_9, c17, F17, l17_0, q13, q12, q0, q1, qm, qn, c2, c2', c3, c7, hb, hx, hy, hb2, hx2, hy2, hxx, hyy, hf, Int.toNat_natCast, go_sem, Int.reduceTMod, Int.reduceTDiv, Int.reduceDiv, Int.reduceMod, Int.reduceAdd, Int.reduceSub, Int.reduceMul, Int.reduceNeg, Int.reducePow, Int.reduceEq, ↓reduceIte, Nat.reduceEqDiff, Nat.reduceAdd, Nat.reduceMul, Nat.reduceLeDiff, Nat.reduceSub, Nat.reduceLT, Int.reduceToNat, Int.reduceLT, Int.reduceLE, reduceCtorEq]
          repeat' ((first | refine FK_split (fun h_ => ?_) (fun h_ => ?_) | refine GK_split (fun h_ => ?_) (fun h_ => ?_) | refine ite_both (fun h_ => ?_) (fun h_ => ?_)) <;> (try simp only [decide_eq_true_eq, decide_eq_false_iff_not, Bool.not_true, Bool.not_false, Bool.not_eq_true', Bool.not_eq_false', Bool.not_eq_eq_eq_not, Decidable.not_not] at h_) <;> (try simp only [r17_0, r17_1, r17_2, r17_3, r17_4, r17_5, r17_6, r17_7, r17_8, r17_9, c17, F17, l17_0, q13, q12, q0, q1, qm, qn, c2, c2', c3, c7, hb, hx, hy, hb2, hx2, hy2, hxx, hyy, hf, Int.toNat_natCast, h_, go_sem, Int.reduceTMod, Int.reduceTDiv, Int.reduceDiv, Int.reduceMod, Int.reduceAdd, Int.reduceSub, Int.reduceMul, Int.reduceNeg, Int.reducePow, Int.reduceEq, ↓reduceIte, Nat.reduceEqDiff, Nat.reduceAdd, Nat.reduceMul, Nat.reduceLeDiff, Nat.reduceSub, Nat.reduceLT, Int.reduceToNat, Int.reduceLT, Int.reduceLE, reduceCtorEq]))
        · skip
          try simp only [r17_0, r17_1, r17_2, r17_3, r17_4, r17_5, r17_6, r17_7, r17_8, r17_9, c17, F17, l17_0, q13, q12, q0, q1, qm, qn, c2, c2', c3, c7, hb, hx, hy, hb2, hx2, hy2, hxx, hf, Int.toNat_natCast, go_sem, Int.reduceTMod, Int.reduceTDiv, Int.reduceDiv, Int.reduceMod, Int.reduceAdd, Int.reduceSub, Int.reduceMul, Int.reduceNeg, Int.reducePow, Int.reduceEq, ↓reduceIte, Nat.reduceEqDiff, Nat.reduceAdd, Nat.reduceMul, Nat.reduceLeDiff, Nat.reduceSub, Nat.reduceLT, Int.reduceToNat, Int.reduceLT, Int.reduceLE, reduceCtorEq]
          repeat' ((first | refine FK_split (fun h_ => ?_) (fun h_ => ?_) | refine GK_split (fun h_ => ?_) (fun h_ => ?_) | refine ite_both (fun h_ => ?_) (fun h_ => ?_)) <;> (try simp only [decide_eq_true_eq, decide_eq_false_iff_not, Bool.not_true, Bool.not_false, Bool.not_eq_true', Bool.not_eq_false', Bool.not_eq_eq_eq_not, Decidable.not_not] at h_) <;> (try simp only [r17_0, r17_1, r17_2, r17_3, r17_4, r17_5, r17_6, r17_7, r17_8, r17_9, c17, F17, l17_0, q13, q12, q0, q1, qm, qn, c2, c2', c3, c7, hb, hx, hy, hb2, hx2, hy2, hxx, hf, Int.toNat_natCast, h_, go_sem, Int.reduceTMod, Int.reduceTDiv, Int.reduceDiv, Int.reduceMod, Int.reduceAdd, Int.reduceSub, Int.reduceMul, Int.reduceNeg, Int.reducePow, Int.reduceEq, ↓reduceIte, Nat.reduceEqDiff, Nat.reduceAdd, Nat.reduceMul, Nat.reduceLeDiff, Nat.reduceSub, Nat.reduceLT, Int.reduceToNat, Int.reduceLT, Int.reduceLE, reduceCtorEq]))
    · obtain ⟨q13, q12, q0, q1, qm, qn, qa⟩ := hs
      have c2 : ((l.length : Int) < (l.length : Int)) = False := eq_false (by omega)
      have hf : decide (l = k) = true := by
        rw [List.take_length, hc, List.take_length] at qa
        exact decide_eq_true qa
      try simp only [r17_0, r17_1, r17_2, r17_3, r17_4, r17_5, r17_6, r17_7, r17_8, r17_9, c17, F17, l17_0, q13, q12, q0, q1, qm, qn, c2, hf, go_sem, Int.reduceTMod, Int.reduceTDiv, Int.reduceDiv, Int.reduceMod, Int.reduceAdd, Int.reduceSub, Int.reduceMul, Int.reduceNeg, Int.reducePow, Int.reduceEq, ↓reduceIte, Nat.reduceEqDiff, Nat.reduceAdd, Nat.reduceMul, Nat.reduceLeDiff, Nat.reduceSub, Nat.reduceLT, Int.reduceToNat, Int.reduceLT, Int.reduceLE, reduceCtorEq]
      repeat' ((first | refine FK_split (fun h_ => ?_) (fun h_ => ?_) | refine GK_split (fun h_ => ?_) (fun h_ => ?_) | refine ite_both (fun h_ => ?_) (fun h_ => ?_)) <;> (try simp only [decide_eq_true_eq, decide_eq_false_iff_not, Bool.not_true, Bool.not_false, Bool.not_eq_true', Bool.not_eq_false', Bool.not_eq_eq_eq_not, Decidable.not_not] at h_) <;> (try simp only [r17_0, r17_1, r17_2, r17_3, r17_4, r17_5, r17_6, r17_7, r17_8, r17_9, c17, F17, l17_0, q13, q12, q0, q1, qm, qn, c2, hf, h_, go_sem, Int.reduceTMod, Int.reduceTDiv, Int.reduceDiv, Int.reduceMod, Int.reduceAdd, Int.reduceSub, Int.reduceMul, Int.reduceNeg, Int.reducePow, Int.reduceEq, ↓reduceIte, Nat.reduceEqDiff, Nat.reduceAdd, Nat.reduceMul, Nat.reduceLeDiff, Nat.reduceSub, Nat.reduceLT, Int.reduceToNat, Int.reduceLT, Int.reduceLE, reduceCtorEq]))
    · simp only [List.take_zero, go_sem, Int.reduceTMod, Int.reduceTDiv, Int.reduceDiv, Int.reduceMod, Int.reduceAdd, Int.reduceSub, Int.reduceMul, Int.reduceNeg, Int.reducePow, Int.reduceEq, ↓reduceIte, Nat.reduceEqDiff, Nat.reduceAdd, Nat.reduceMul, Nat.reduceLeDiff, Nat.reduceSub, Nat.reduceLT, Int.reduceToNat, Int.reduceLT, Int.reduceLE, reduceCtorEq]
  · have hc' : ((l.length : Int) = (k.length : Int)) = False := eq_false (by omega)
    have hf : decide (l = k) = false := decide_eq_false (fun h => hc (by rw [h]))
    try simp only [r17_0, r17_1, r17_2, r17_3, r17_4, r17_5, r17_6, r17_7, r17_8, r17_9, c17, F17, hlen1, hlen2, hc', hf, go_sem, Int.reduceTMod, Int.reduceTDiv, Int.reduceDiv, Int.reduceMod, Int.reduceAdd, Int.reduceSub, Int.reduceMul, Int.reduceNeg, Int.reducePow, Int.reduceEq, ↓reduceIte, Nat.reduceEqDiff, Nat.reduceAdd, Nat.reduceMul, Nat.reduceLeDiff, Nat.reduceSub, Nat.reduceLT, Int.reduceToNat, Int.reduceLT, Int.reduceLE, reduceCtorEq]
    repeat' ((first | refine FK_split (fun h_ => ?_) (fun h_ => ?_) | refine GK_split (fun h_ => ?_) (fun h_ => ?_) | refine ite_both (fun h_ => ?_) (fun h_ => ?_)) <;> (try simp only [decide_eq_true_eq, decide_eq_false_iff_not, Bool.not_true, Bool.not_false, Bool.not_eq_true', Bool.not_eq_false', Bool.not_eq_eq_eq_not, Decidable.not_not] at h_) <;> (try simp only [r17_0, r17_1, r17_2, r17_3, r17_4, r17_5, r17_6, r17_7, r17_8, r17_9, c17, F17, hlen1, hlen2, hc', hf, h_, go_sem, Int.reduceTMod, Int.reduceTDiv, Int.reduceDiv, Int.reduceMod, Int.reduceAdd, Int.reduceSub, Int.reduceMul, Int.reduceNeg, Int.reducePow, Int.reduceEq, ↓reduceIte, Nat.reduceEqDiff, Nat.reduceAdd, Nat.reduceMul, Nat.reduceLeDiff, Nat.reduceSub, Nat.reduceLT, Int.reduceToNat, Int.reduceLT, Int.reduceLE, reduceCtorEq]))

/- Rows of points copied: as_ the reference's points; without repeated ones. Conditions: those that each theorem names. -/
open Go Go.Proofs
set_option linter.unusedSimpArgs false
set_option linter.unusedVariables false

abbrev OPt := OL Pt.cs 2
theorem take_snoc {α : Type} {l : List α} {i : Nat} {p : α} (hp : l[i]? = some p) : l.take (i + 1) = l.take i ++ [p] := by
  rw [List.take_add_one, hp]; rfl
theorem rd_same {m m' : Mem} {id off k : Nat} (h : m' id = m id) : rd m' id off k = rd m id off k := by
  unfold rd; rw [h]
theorem pt_nb {p q : Pt} (h : p ≠ q) : (p.x == q.x && p.y == q.y) = false := by
  rcases pt_ne h with h | h <;> simp [h]
theorem pt_eb {p q : Pt} (h : p = q) : (p.x == q.x && p.y == q.y) = true := by simp [h]
theorem all_at {l : List Pt} (h : l.all inP = true) {i : Nat} {p : Pt} (hp : l[i]? = some p) : inP p = true := List.all_eq_true.1 h p (List.mem_of_getElem? hp)
/-- The points without those that are the same as_ the one ahead, up to a place. -/
def pln (l : List Pt) : Nat → List Pt
  | 0 => []
  | i + 1 => if i = 0 ∨ l[i]? ≠ l[i - 1]? then pln l i ++ (l[i]?).toList else pln l i
theorem pln_keep {l : List Pt} {i : Nat} {p : Pt} (hp : l[i]? = some p) (h : i = 0 ∨ l[i - 1]? ≠ some p) : pln l (i + 1) = pln l i ++ [p] := by
  rw [pln, hp, if_pos]
  · rfl
  · rcases h with h | h
    · exact Or.inl h
    · exact Or.inr (fun e => h e.symm)
theorem pln_skip {l : List Pt} {i : Nat} {p : Pt} (hp : l[i]? = some p) (h0 : i ≠ 0) (h : l[i - 1]? = some p) : pln l (i + 1) = pln l i := by
  rw [pln, hp, if_neg]
  rintro (e | e)
  · exact h0 e
  · exact e h.symm
theorem pln_len (l : List Pt) : ∀ i, (pln l i).length ≤ i
  | 0 => by simp [pln]
  | i + 1 => by
    have := pln_len l i
    rw [pln]
    split
    · rw [List.length_append]
      have : (l[i]?).toList.length ≤ 1 := by cases l[i]? <;> simp
      omega
    · omega
theorem pln_all {l : List Pt} (h : l.all inP = true) : ∀ i, (pln l i).all inP = true
  | 0 => rfl
  | i + 1 => by
    rw [pln]
    split
    · rw [List.all_append, pln_all h i, Bool.true_and]
      cases hp : l[i]? with
      | none => rfl
      | some p =>
        have := List.all_eq_true.1 h p (List.mem_of_getElem? hp)
        simp [this]
    · exact pln_all h i
theorem w_refs (r : Reg) (l : List Pt) (m : Mem) (n : Nat) (hr : RPt m n r l) (hl : l.length < 4294967296) :
    Fn TA 13 [r] m n (fun r' m' n' => OPt n m' n' r' l ∧ n ≤ n') := by
  refine Fn_ofK (fn := F13) rfl (by simp [F13]) ?_
  have hlen := hr.len
  try simp only [r13_0, r13_1, r13_2, r13_3, r13_4, r13_5, r13_6, r13_7, c13, F13, hlen, go_sem, Int.reduceTMod, Int.reduceTDiv, Int.reduceDiv, Int.reduceMod, Int.reduceAdd, Int.reduceSub, Int.reduceMul, Int.reduceNeg, Int.reducePow, Int.reduceEq, ↓reduceIte, Nat.reduceEqDiff, Nat.reduceAdd, Nat.reduceMul, Nat.reduceLeDiff, Nat.reduceSub, Nat.reduceLT, Int.reduceToNat, Int.reduceLT, Int.reduceLE, reduceCtorEq]
  repeat' ((first | refine FK_split (fun h_ => ?_) (fun h_ => ?_) | refine GK_split (fun h_ => ?_) (fun h_ => ?_) | refine ite_both (fun h_ => ?_) (fun h_ => ?_)) <;> (try simp only [decide_eq_true_eq, decide_eq_false_iff_not, Bool.not_true, Bool.not_false, Bool.not_eq_true', Bool.not_eq_false', Bool.not_eq_eq_eq_not, Decidable.not_not] at h_) <;> (try simp only [r13_0, r13_1, r13_2, r13_3, r13_4, r13_5, r13_6, r13_7, c13, F13, hlen, h_, go_sem, Int.reduceTMod, Int.reduceTDiv, Int.reduceDiv, Int.reduceMod, Int.reduceAdd, Int.reduceSub, Int.reduceMul, Int.reduceNeg, Int.reducePow, Int.reduceEq, ↓reduceIte, Nat.reduceEqDiff, Nat.reduceAdd, Nat.reduceMul, Nat.reduceLeDiff, Nat.reduceSub, Nat.reduceLT, Int.reduceToNat, Int.reduceLT, Int.reduceLE, reduceCtorEq]))
  refine XK_iter (inv := fun i s => s.e 8 = RI i ∧ s.e 7 = RI l.length ∧ s.e 6 = r ∧ n ≤ s.n ∧ (∀ id, id < n → s.m id = m id) ∧ OPt n s.m s.n (s.e 3) (l.take i)) l.length
    (fun L _ => ⟨fun i hi s hs next => ?_, fun s hs => ?_⟩) 0 (by omega) _ ?_
  · obtain ⟨e, M, N⟩ := s
    obtain ⟨q8, q7, q6, qn, qm, qo⟩ := hs
    simp only at q8 q7 q6 qn qm qo
    have hp : l[i]? = some l[i] := List.getElem?_eq_getElem hi
    obtain ⟨id, off, cap, hr1, hid, hrd⟩ := hr.at cs2 hp
    generalize l[i] = p at *
    have c2 : ((i : Int) < (l.length : Int)) = True := eq_true (by omega)
    have c3 : (0 ≤ (i : Int)) = True := eq_true (by omega)
    have c7 : IntKind.i64.wrap ((i : Int) + 1) = ((i + 1 : Nat) : Int) := wr_nat (by omega)
    rw [hr1] at q6
    rw [← rd_same (qm id hid)] at hrd
    have hidN : id < N := by omega
    have n1 := na_0 hidN
    try simp only [r13_0, r13_1, r13_2, r13_3, r13_4, r13_5, r13_6, r13_7, c13, F13, l13_0, q8, q7, q6, c2, c3, c7, hrd, n1, v_lref, Int.toNat_natCast, go_sem, Int.reduceTMod, Int.reduceTDiv, Int.reduceDiv, Int.reduceMod, Int.reduceAdd, Int.reduceSub, Int.reduceMul, Int.reduceNeg, Int.reducePow, Int.reduceEq, ↓reduceIte, Nat.reduceEqDiff, Nat.reduceAdd, Nat.reduceMul, Nat.reduceLeDiff, Nat.reduceSub, Nat.reduceLT, Int.reduceToNat, Int.reduceLT, Int.reduceLE, reduceCtorEq]
    repeat' ((first | refine FK_split (fun h_ => ?_) (fun h_ => ?_) | refine GK_split (fun h_ => ?_) (fun h_ => ?_) | refine ite_both (fun h_ => ?_) (fun h_ => ?_)) <;> (try simp only [decide_eq_true_eq, decide_eq_false_iff_not, Bool.not_true, Bool.not_false, Bool.not_eq_true', Bool.not_eq_false', Bool.not_eq_eq_eq_not, Decidable.not_not] at h_) <;> (try simp only [r13_0, r13_1, r13_2, r13_3, r13_4, r13_5, r13_6, r13_7, c13, F13, l13_0, q8, q7, q6, c2, c3, c7, hrd, n1, v_lref, Int.toNat_natCast, h_, go_sem, Int.reduceTMod, Int.reduceTDiv, Int.reduceDiv, Int.reduceMod, Int.reduceAdd, Int.reduceSub, Int.reduceMul, Int.reduceNeg, Int.reducePow, Int.reduceEq, ↓reduceIte, Nat.reduceEqDiff, Nat.reduceAdd, Nat.reduceMul, Nat.reduceLeDiff, Nat.reduceSub, Nat.reduceLT, Int.reduceToNat, Int.reduceLT, Int.reduceLE, reduceCtorEq]))
    refine K_push cs2 (by decide) (p := p) (o := true) qo (by omega) (fun id h1 h2 => by simp only [na_0 h2, na_ne h2, go_sem, Int.reduceTMod, Int.reduceTDiv, Int.reduceDiv, Int.reduceMod, Int.reduceAdd, Int.reduceSub, Int.reduceMul, Int.reduceNeg, Int.reducePow, Int.reduceEq, ↓reduceIte, Nat.reduceEqDiff, Nat.reduceAdd, Nat.reduceMul, Nat.reduceLeDiff, Nat.reduceSub, Nat.reduceLT, Int.reduceToNat, Int.reduceLT, Int.reduceLE, reduceCtorEq]) (by simp only [go_sem, Int.reduceTMod, Int.reduceTDiv, Int.reduceDiv, Int.reduceMod, Int.reduceAdd, Int.reduceSub, Int.reduceMul, Int.reduceNeg, Int.reducePow, Int.reduceEq, ↓reduceIte, Nat.reduceEqDiff, Nat.reduceAdd, Nat.reduceMul, Nat.reduceLeDiff, Nat.reduceSub, Nat.reduceLT, Int.reduceToNat, Int.reduceLT, Int.reduceLE, reduceCtorEq]) (by rw [List.length_take]; omega) (by omega) ?_
    intro r' m' ho h1 h2
    try simp only [r13_0, r13_1, r13_2, r13_3, r13_4, r13_5, r13_6, r13_7, c13, F13, q8, q7, q6, c7, go_sem, Int.reduceTMod, Int.reduceTDiv, Int.reduceDiv, Int.reduceMod, Int.reduceAdd, Int.reduceSub, Int.reduceMul, Int.reduceNeg, Int.reducePow, Int.reduceEq, ↓reduceIte, Nat.reduceEqDiff, Nat.reduceAdd, Nat.reduceMul, Nat.reduceLeDiff, Nat.reduceSub, Nat.reduceLT, Int.reduceToNat, Int.reduceLT, Int.reduceLE, reduceCtorEq]
    repeat' ((first | refine FK_split (fun h_ => ?_) (fun h_ => ?_) | refine GK_split (fun h_ => ?_) (fun h_ => ?_) | refine ite_both (fun h_ => ?_) (fun h_ => ?_)) <;> (try simp only [decide_eq_true_eq, decide_eq_false_iff_not, Bool.not_true, Bool.not_false, Bool.not_eq_true', Bool.not_eq_false', Bool.not_eq_eq_eq_not, Decidable.not_not] at h_) <;> (try simp only [r13_0, r13_1, r13_2, r13_3, r13_4, r13_5, r13_6, r13_7, c13, F13, q8, q7, q6, c7, h_, go_sem, Int.reduceTMod, Int.reduceTDiv, Int.reduceDiv, Int.reduceMod, Int.reduceAdd, Int.reduceSub, Int.reduceMul, Int.reduceNeg, Int.reducePow, Int.reduceEq, ↓reduceIte, Nat.reduceEqDiff, Nat.reduceAdd, Nat.reduceMul, Nat.reduceLeDiff, Nat.reduceSub, Nat.reduceLT, Int.reduceToNat, Int.reduceLT, Int.reduceLE, reduceCtorEq]))
    refine next _ ⟨?_, ?_, ?_, ?_, ?_, ?_⟩
    · simp only [go_sem, Int.reduceTMod, Int.reduceTDiv, Int.reduceDiv, Int.reduceMod, Int.reduceAdd, Int.reduceSub, Int.reduceMul, Int.reduceNeg, Int.reducePow, Int.reduceEq, ↓reduceIte, Nat.reduceEqDiff, Nat.reduceAdd, Nat.reduceMul, Nat.reduceLeDiff, Nat.reduceSub, Nat.reduceLT, Int.reduceToNat, Int.reduceLT, Int.reduceLE, reduceCtorEq]
    · simp only [q7, go_sem, Int.reduceTMod, Int.reduceTDiv, Int.reduceDiv, Int.reduceMod, Int.reduceAdd, Int.reduceSub, Int.reduceMul, Int.reduceNeg, Int.reducePow, Int.reduceEq, ↓reduceIte, Nat.reduceEqDiff, Nat.reduceAdd, Nat.reduceMul, Nat.reduceLeDiff, Nat.reduceSub, Nat.reduceLT, Int.reduceToNat, Int.reduceLT, Int.reduceLE, reduceCtorEq]
    · simp only [q6, hr1, go_sem, Int.reduceTMod, Int.reduceTDiv, Int.reduceDiv, Int.reduceMod, Int.reduceAdd, Int.reduceSub, Int.reduceMul, Int.reduceNeg, Int.reducePow, Int.reduceEq, ↓reduceIte, Nat.reduceEqDiff, Nat.reduceAdd, Nat.reduceMul, Nat.reduceLeDiff, Nat.reduceSub, Nat.reduceLT, Int.reduceToNat, Int.reduceLT, Int.reduceLE, reduceCtorEq]
    · simp only [go_sem, Int.reduceTMod, Int.reduceTDiv, Int.reduceDiv, Int.reduceMod, Int.reduceAdd, Int.reduceSub, Int.reduceMul, Int.reduceNeg, Int.reducePow, Int.reduceEq, ↓reduceIte, Nat.reduceEqDiff, Nat.reduceAdd, Nat.reduceMul, Nat.reduceLeDiff, Nat.reduceSub, Nat.reduceLT, Int.reduceToNat, Int.reduceLT, Int.reduceLE, reduceCtorEq]
      omega
    · intro id hid
      simp only
      rw [h1 id hid]
      simp only [na_0 (show id < N by omega), na_ne (show id < N by omega), qm id hid, go_sem, Int.reduceTMod, Int.reduceTDiv, Int.reduceDiv, Int.reduceMod, Int.reduceAdd, Int.reduceSub, Int.reduceMul, Int.reduceNeg, Int.reducePow, Int.reduceEq, ↓reduceIte, Nat.reduceEqDiff, Nat.reduceAdd, Nat.reduceMul, Nat.reduceLeDiff, Nat.reduceSub, Nat.reduceLT, Int.reduceToNat, Int.reduceLT, Int.reduceLE, reduceCtorEq]
    · simp only [go_sem, Int.reduceTMod, Int.reduceTDiv, Int.reduceDiv, Int.reduceMod, Int.reduceAdd, Int.reduceSub, Int.reduceMul, Int.reduceNeg, Int.reducePow, Int.reduceEq, ↓reduceIte, Nat.reduceEqDiff, Nat.reduceAdd, Nat.reduceMul, Nat.reduceLeDiff, Nat.reduceSub, Nat.reduceLT, Int.reduceToNat, Int.reduceLT, Int.reduceLE, reduceCtorEq]
      rw [take_snoc hp]
      exact ho
  · obtain ⟨e, M, N⟩ := s
    obtain ⟨q8, q7, q6, qn, qm, qo⟩ := hs
    simp only at q8 q7 q6 qn qm qo
    have c2 : ((l.length : Int) < (l.length : Int)) = False := eq_false (by omega)
    rw [List.take_length] at qo
    try simp only [r13_0, r13_1, r13_2, r13_3, r13_4, r13_5, r13_6, r13_7, c13, F13, l13_0, q8, q7, q6, c2, go_sem, Int.reduceTMod, Int.reduceTDiv, Int.reduceDiv, Int.reduceMod, Int.reduceAdd, Int.reduceSub, Int.reduceMul, Int.reduceNeg, Int.reducePow, Int.reduceEq, ↓reduceIte, Nat.reduceEqDiff, Nat.reduceAdd, Nat.reduceMul, Nat.reduceLeDiff, Nat.reduceSub, Nat.reduceLT, Int.reduceToNat, Int.reduceLT, Int.reduceLE, reduceCtorEq]
    repeat' ((first | refine FK_split (fun h_ => ?_) (fun h_ => ?_) | refine GK_split (fun h_ => ?_) (fun h_ => ?_) | refine ite_both (fun h_ => ?_) (fun h_ => ?_)) <;> (try simp only [decide_eq_true_eq, decide_eq_false_iff_not, Bool.not_true, Bool.not_false, Bool.not_eq_true', Bool.not_eq_false', Bool.not_eq_eq_eq_not, Decidable.not_not] at h_) <;> (try simp only [r13_0, r13_1, r13_2, r13_3, r13_4, r13_5, r13_6, r13_7, c13, F13, l13_0, q8, q7, q6, c2, h_, go_sem, Int.reduceTMod, Int.reduceTDiv, Int.reduceDiv, Int.reduceMod, Int.reduceAdd, Int.reduceSub, Int.reduceMul, Int.reduceNeg, Int.reducePow, Int.reduceEq, ↓reduceIte, Nat.reduceEqDiff, Nat.reduceAdd, Nat.reduceMul, Nat.reduceLeDiff, Nat.reduceSub, Nat.reduceLT, Int.reduceToNat, Int.reduceLT, Int.reduceLE, reduceCtorEq]))
    exact ⟨qo, qn⟩
  · simp only [List.take_zero, go_sem, Int.reduceTMod, Int.reduceTDiv, Int.reduceDiv, Int.reduceMod, Int.reduceAdd, Int.reduceSub, Int.reduceMul, Int.reduceNeg, Int.reducePow, Int.reduceEq, ↓reduceIte, Nat.reduceEqDiff, Nat.reduceAdd, Nat.reduceMul, Nat.reduceLeDiff, Nat.reduceSub, Nat.reduceLT, Int.reduceToNat, Int.reduceLT, Int.reduceLE, reduceCtorEq]
    exact ⟨by omega, fun _ _ => trivial, OL.nil⟩

/- Rows of points without repeated ones walked: the reference's. Conditions: those that each theorem names. -/
open Go Go.Proofs
set_option linter.unusedSimpArgs false
set_option linter.unusedVariables false

theorem w_Plain (r : Reg) (l : List Pt) (m : Mem) (n : Nat) (hr : RPt m n r l) (hl : l.length < 4294967296) :
    Fn TA 38 [r, RB false] m n (fun r' m' n' => OPt n m' n' r' (pln l l.length) ∧ n ≤ n') := by
  refine Fn_ofK (fn := F38) rfl (by simp [F38]) ?_
  have hlen := hr.len
  try simp only [r38_0, r38_1, r38_2, r38_3, r38_5, r38_6, r38_4, r38_7, r38_8, r38_9, c38, F38, hlen, go_sem, Int.reduceTMod, Int.reduceTDiv, Int.reduceDiv, Int.reduceMod, Int.reduceAdd, Int.reduceSub, Int.reduceMul, Int.reduceNeg, Int.reducePow, Int.reduceEq, ↓reduceIte, Nat.reduceEqDiff, Nat.reduceAdd, Nat.reduceMul, Nat.reduceLeDiff, Nat.reduceSub, Nat.reduceLT, Int.reduceToNat, Int.reduceLT, Int.reduceLE, reduceCtorEq]
  repeat' ((first | refine FK_split (fun h_ => ?_) (fun h_ => ?_) | refine GK_split (fun h_ => ?_) (fun h_ => ?_) | refine ite_both (fun h_ => ?_) (fun h_ => ?_)) <;> (try simp only [decide_eq_true_eq, decide_eq_false_iff_not, Bool.not_true, Bool.not_false, Bool.not_eq_true', Bool.not_eq_false', Bool.not_eq_eq_eq_not, Decidable.not_not] at h_) <;> (try simp only [r38_0, r38_1, r38_2, r38_3, r38_5, r38_6, r38_4, r38_7, r38_8, r38_9, c38, F38, hlen, h_, go_sem, Int.reduceTMod, Int.reduceTDiv, Int.reduceDiv, Int.reduceMod, Int.reduceAdd, Int.reduceSub, Int.reduceMul, Int.reduceNeg, Int.reducePow, Int.reduceEq, ↓reduceIte, Nat.reduceEqDiff, Nat.reduceAdd, Nat.reduceMul, Nat.reduceLeDiff, Nat.reduceSub, Nat.reduceLT, Int.reduceToNat, Int.reduceLT, Int.reduceLE, reduceCtorEq]))
  refine XK_iter (inv := fun i s => s.e 6 = RI i ∧ s.e 0 = r ∧ s.e 1 = RB false ∧ n ≤ s.n ∧ (∀ id, id < n → s.m id = m id) ∧ OPt n s.m s.n (s.e 5) (pln l i)) l.length
    (fun L _ => ⟨fun i hi s hs next => ?_, fun s hs => ?_⟩) 0 (by omega) _ ?_
  · obtain ⟨e, M, N⟩ := s
    obtain ⟨q6, q0, q1, qn, qm, qo⟩ := hs
    simp only at q6 q0 q1 qn qm qo
    have hp : l[i]? = some l[i] := List.getElem?_eq_getElem hi
    obtain ⟨id, off, cap, hr1, hid, hrd⟩ := hr.at cs2 hp
    have c2 : ((i : Int) < (l.length : Int)) = True := eq_true (by omega)
    have c3 : (0 ≤ (i : Int)) = True := eq_true (by omega)
    have c7 : IntKind.i64.wrap ((i : Int) + 1) = ((i + 1 : Nat) : Int) := wr_nat (by omega)
    rw [hr1] at q0
    rw [← rd_same (qm id hid)] at hrd
    have hidN : id < N := by omega
    have n1 := na_0 hidN
    have hlp := pln_len l i
    by_cases i0 : i = 0
    · have hk := pln_keep hp (Or.inl i0)
      have c0 : ((i : Int) = 0) = True := eq_true (by omega)
      generalize l[i] = p at *
      try simp only [r38_0, r38_1, r38_2, r38_3, r38_5, r38_6, r38_4, r38_7, r38_8, r38_9, c38, F38, l38_0, l38_1, q6, q0, q1, c0, c2, c3, c7, hrd, n1, Int.toNat_natCast, go_sem, Int.reduceTMod, Int.reduceTDiv, Int.reduceDiv, Int.reduceMod, Int.reduceAdd, Int.reduceSub, Int.reduceMul, Int.reduceNeg, Int.reducePow, Int.reduceEq, ↓reduceIte, Nat.reduceEqDiff, Nat.reduceAdd, Nat.reduceMul, Nat.reduceLeDiff, Nat.reduceSub, Nat.reduceLT, Int.reduceToNat, Int.reduceLT, Int.reduceLE, reduceCtorEq]
      repeat' ((first | refine FK_split (fun h_ => ?_) (fun h_ => ?_) | refine GK_split (fun h_ => ?_) (fun h_ => ?_) | refine ite_both (fun h_ => ?_) (fun h_ => ?_)) <;> (try simp only [decide_eq_true_eq, decide_eq_false_iff_not, Bool.not_true, Bool.not_false, Bool.not_eq_true', Bool.not_eq_false', Bool.not_eq_eq_eq_not, Decidable.not_not] at h_) <;> (try simp only [r38_0, r38_1, r38_2, r38_3, r38_5, r38_6, r38_4, r38_7, r38_8, r38_9, c38, F38, l38_0, l38_1, q6, q0, q1, c0, c2, c3, c7, hrd, n1, Int.toNat_natCast, h_, go_sem, Int.reduceTMod, Int.reduceTDiv, Int.reduceDiv, Int.reduceMod, Int.reduceAdd, Int.reduceSub, Int.reduceMul, Int.reduceNeg, Int.reducePow, Int.reduceEq, ↓reduceIte, Nat.reduceEqDiff, Nat.reduceAdd, Nat.reduceMul, Nat.reduceLeDiff, Nat.reduceSub, Nat.reduceLT, Int.reduceToNat, Int.reduceLT, Int.reduceLE, reduceCtorEq]))
      refine K_push cs2 (by decide) (p := p) (o := true) qo (by omega) (fun id h1 h2 => by simp only [na_0 h2, na_ne h2, go_sem, Int.reduceTMod, Int.reduceTDiv, Int.reduceDiv, Int.reduceMod, Int.reduceAdd, Int.reduceSub, Int.reduceMul, Int.reduceNeg, Int.reducePow, Int.reduceEq, ↓reduceIte, Nat.reduceEqDiff, Nat.reduceAdd, Nat.reduceMul, Nat.reduceLeDiff, Nat.reduceSub, Nat.reduceLT, Int.reduceToNat, Int.reduceLT, Int.reduceLE, reduceCtorEq]) (by simp only [go_sem, Int.reduceTMod, Int.reduceTDiv, Int.reduceDiv, Int.reduceMod, Int.reduceAdd, Int.reduceSub, Int.reduceMul, Int.reduceNeg, Int.reducePow, Int.reduceEq, ↓reduceIte, Nat.reduceEqDiff, Nat.reduceAdd, Nat.reduceMul, Nat.reduceLeDiff, Nat.reduceSub, Nat.reduceLT, Int.reduceToNat, Int.reduceLT, Int.reduceLE, reduceCtorEq]) (by omega) (by omega) ?_
      intro r' m' ho h1 h2
      try simp only [r38_0, r38_1, r38_2, r38_3, r38_5, r38_6, r38_4, r38_7, r38_8, r38_9, c38, F38, q6, q0, q1, c7, go_sem, Int.reduceTMod, Int.reduceTDiv, Int.reduceDiv, Int.reduceMod, Int.reduceAdd, Int.reduceSub, Int.reduceMul, Int.reduceNeg, Int.reducePow, Int.reduceEq, ↓reduceIte, Nat.reduceEqDiff, Nat.reduceAdd, Nat.reduceMul, Nat.reduceLeDiff, Nat.reduceSub, Nat.reduceLT, Int.reduceToNat, Int.reduceLT, Int.reduceLE, reduceCtorEq]
      repeat' ((first | refine FK_split (fun h_ => ?_) (fun h_ => ?_) | refine GK_split (fun h_ => ?_) (fun h_ => ?_) | refine ite_both (fun h_ => ?_) (fun h_ => ?_)) <;> (try simp only [decide_eq_true_eq, decide_eq_false_iff_not, Bool.not_true, Bool.not_false, Bool.not_eq_true', Bool.not_eq_false', Bool.not_eq_eq_eq_not, Decidable.not_not] at h_) <;> (try simp only [r38_0, r38_1, r38_2, r38_3, r38_5, r38_6, r38_4, r38_7, r38_8, r38_9, c38, F38, q6, q0, q1, c7, h_, go_sem, Int.reduceTMod, Int.reduceTDiv, Int.reduceDiv, Int.reduceMod, Int.reduceAdd, Int.reduceSub, Int.reduceMul, Int.reduceNeg, Int.reducePow, Int.reduceEq, ↓reduceIte, Nat.reduceEqDiff, Nat.reduceAdd, Nat.reduceMul, Nat.reduceLeDiff, Nat.reduceSub, Nat.reduceLT, Int.reduceToNat, Int.reduceLT, Int.reduceLE, reduceCtorEq]))
      refine next _ ⟨?_, ?_, ?_, ?_, ?_, ?_⟩
      · simp only [go_sem, Int.reduceTMod, Int.reduceTDiv, Int.reduceDiv, Int.reduceMod, Int.reduceAdd, Int.reduceSub, Int.reduceMul, Int.reduceNeg, Int.reducePow, Int.reduceEq, ↓reduceIte, Nat.reduceEqDiff, Nat.reduceAdd, Nat.reduceMul, Nat.reduceLeDiff, Nat.reduceSub, Nat.reduceLT, Int.reduceToNat, Int.reduceLT, Int.reduceLE, reduceCtorEq]
      · simp only [q0, hr1, go_sem, Int.reduceTMod, Int.reduceTDiv, Int.reduceDiv, Int.reduceMod, Int.reduceAdd, Int.reduceSub, Int.reduceMul, Int.reduceNeg, Int.reducePow, Int.reduceEq, ↓reduceIte, Nat.reduceEqDiff, Nat.reduceAdd, Nat.reduceMul, Nat.reduceLeDiff, Nat.reduceSub, Nat.reduceLT, Int.reduceToNat, Int.reduceLT, Int.reduceLE, reduceCtorEq]
      · simp only [q1, go_sem, Int.reduceTMod, Int.reduceTDiv, Int.reduceDiv, Int.reduceMod, Int.reduceAdd, Int.reduceSub, Int.reduceMul, Int.reduceNeg, Int.reducePow, Int.reduceEq, ↓reduceIte, Nat.reduceEqDiff, Nat.reduceAdd, Nat.reduceMul, Nat.reduceLeDiff, Nat.reduceSub, Nat.reduceLT, Int.reduceToNat, Int.reduceLT, Int.reduceLE, reduceCtorEq]
      · simp only [go_sem, Int.reduceTMod, Int.reduceTDiv, Int.reduceDiv, Int.reduceMod, Int.reduceAdd, Int.reduceSub, Int.reduceMul, Int.reduceNeg, Int.reducePow, Int.reduceEq, ↓reduceIte, Nat.reduceEqDiff, Nat.reduceAdd, Nat.reduceMul, Nat.reduceLeDiff, Nat.reduceSub, Nat.reduceLT, Int.reduceToNat, Int.reduceLT, Int.reduceLE, reduceCtorEq]
        omega
      · intro id hid
        simp only
        rw [h1 id hid]
        simp only [na_0 (show id < N by omega), na_ne (show id < N by omega), qm id hid, go_sem, Int.reduceTMod, Int.reduceTDiv, Int.reduceDiv, Int.reduceMod, Int.reduceAdd, Int.reduceSub, Int.reduceMul, Int.reduceNeg, Int.reducePow, Int.reduceEq, ↓reduceIte, Nat.reduceEqDiff, Nat.reduceAdd, Nat.reduceMul, Nat.reduceLeDiff, Nat.reduceSub, Nat.reduceLT, Int.reduceToNat, Int.reduceLT, Int.reduceLE, reduceCtorEq]
      · simp only [go_sem, Int.reduceTMod, Int.reduceTDiv, Int.reduceDiv, Int.reduceMod, Int.reduceAdd, Int.reduceSub, Int.reduceMul, Int.reduceNeg, Int.reducePow, Int.reduceEq, ↓reduceIte, Nat.reduceEqDiff, Nat.reduceAdd, Nat.reduceMul, Nat.reduceLeDiff, Nat.reduceSub, Nat.reduceLT, Int.reduceToNat, Int.reduceLT, Int.reduceLE, reduceCtorEq]
        rw [hk]
        exact ho
    · have hp' : l[i - 1]? = some (l[i - 1]'(by omega)) := List.getElem?_eq_getElem (by omega)
      obtain ⟨id', off', cap', hr1', hid', hrd'⟩ := hr.at cs2 hp'
      rw [hr1] at hr1'
      simp only [Reg.one.injEq, Cell.sl.injEq, true_and] at hr1'
      obtain ⟨rfl, rfl, rfl, _⟩ := hr1'
      rw [← rd_same (qm id hid)] at hrd'
      have c0 : ((i : Int) = 0) = False := eq_false (by omega)
      have c5 : IntKind.i64.wrap ((i : Int) - 1) = ((i - 1 : Nat) : Int) := (wr_eq (by omega) (by omega)).trans (by omega)
      have c6 : (((i - 1 : Nat) : Int) < (l.length : Int)) = True := eq_true (by omega)
      have c8 : (0 ≤ ((i - 1 : Nat) : Int)) = True := eq_true (by omega)
      generalize hgp : l[i] = p at *
      generalize hgq : (l[i - 1]'(by omega)) = q at *
      by_cases e1 : p = q
      · have hk := pln_skip hp i0 (by rw [hp', e1])
        subst e1
        try simp only [r38_0, r38_1, r38_2, r38_3, r38_5, r38_6, r38_4, r38_7, r38_8, r38_9, c38, F38, l38_0, l38_1, q6, q0, q1, c0, c2, c3, c5, c6, c7, c8, hrd, hrd', n1, Int.toNat_natCast, go_sem, Int.reduceTMod, Int.reduceTDiv, Int.reduceDiv, Int.reduceMod, Int.reduceAdd, Int.reduceSub, Int.reduceMul, Int.reduceNeg, Int.reducePow, Int.reduceEq, ↓reduceIte, Nat.reduceEqDiff, Nat.reduceAdd, Nat.reduceMul, Nat.reduceLeDiff, Nat.reduceSub, Nat.reduceLT, Int.reduceToNat, Int.reduceLT, Int.reduceLE, reduceCtorEq]
        repeat' ((first | refine FK_split (fun h_ => ?_) (fun h_ => ?_) | refine GK_split (fun h_ => ?_) (fun h_ => ?_) | refine ite_both (fun h_ => ?_) (fun h_ => ?_)) <;> (try simp only [decide_eq_true_eq, decide_eq_false_iff_not, Bool.not_true, Bool.not_false, Bool.not_eq_true', Bool.not_eq_false', Bool.not_eq_eq_eq_not, Decidable.not_not] at h_) <;> (try simp only [r38_0, r38_1, r38_2, r38_3, r38_5, r38_6, r38_4, r38_7, r38_8, r38_9, c38, F38, l38_0, l38_1, q6, q0, q1, c0, c2, c3, c5, c6, c7, c8, hrd, hrd', n1, Int.toNat_natCast, h_, go_sem, Int.reduceTMod, Int.reduceTDiv, Int.reduceDiv, Int.reduceMod, Int.reduceAdd, Int.reduceSub, Int.reduceMul, Int.reduceNeg, Int.reducePow, Int.reduceEq, ↓reduceIte, Nat.reduceEqDiff, Nat.reduceAdd, Nat.reduceMul, Nat.reduceLeDiff, Nat.reduceSub, Nat.reduceLT, Int.reduceToNat, Int.reduceLT, Int.reduceLE, reduceCtorEq]))
        refine next _ ⟨?_, ?_, ?_, ?_, ?_, ?_⟩
        · simp only [go_sem, Int.reduceTMod, Int.reduceTDiv, Int.reduceDiv, Int.reduceMod, Int.reduceAdd, Int.reduceSub, Int.reduceMul, Int.reduceNeg, Int.reducePow, Int.reduceEq, ↓reduceIte, Nat.reduceEqDiff, Nat.reduceAdd, Nat.reduceMul, Nat.reduceLeDiff, Nat.reduceSub, Nat.reduceLT, Int.reduceToNat, Int.reduceLT, Int.reduceLE, reduceCtorEq]
        · simp only [q0, hr1, go_sem, Int.reduceTMod, Int.reduceTDiv, Int.reduceDiv, Int.reduceMod, Int.reduceAdd, Int.reduceSub, Int.reduceMul, Int.reduceNeg, Int.reducePow, Int.reduceEq, ↓reduceIte, Nat.reduceEqDiff, Nat.reduceAdd, Nat.reduceMul, Nat.reduceLeDiff, Nat.reduceSub, Nat.reduceLT, Int.reduceToNat, Int.reduceLT, Int.reduceLE, reduceCtorEq]
        · simp only [q1, go_sem, Int.reduceTMod, Int.reduceTDiv, Int.reduceDiv, Int.reduceMod, Int.reduceAdd, Int.reduceSub, Int.reduceMul, Int.reduceNeg, Int.reducePow, Int.reduceEq, ↓reduceIte, Nat.reduceEqDiff, Nat.reduceAdd, Nat.reduceMul, Nat.reduceLeDiff, Nat.reduceSub, Nat.reduceLT, Int.reduceToNat, Int.reduceLT, Int.reduceLE, reduceCtorEq]
        · simp only [go_sem, Int.reduceTMod, Int.reduceTDiv, Int.reduceDiv, Int.reduceMod, Int.reduceAdd, Int.reduceSub, Int.reduceMul, Int.reduceNeg, Int.reducePow, Int.reduceEq, ↓reduceIte, Nat.reduceEqDiff, Nat.reduceAdd, Nat.reduceMul, Nat.reduceLeDiff, Nat.reduceSub, Nat.reduceLT, Int.reduceToNat, Int.reduceLT, Int.reduceLE, reduceCtorEq]
          omega
        · exact qm
        · simp only [go_sem, Int.reduceTMod, Int.reduceTDiv, Int.reduceDiv, Int.reduceMod, Int.reduceAdd, Int.reduceSub, Int.reduceMul, Int.reduceNeg, Int.reducePow, Int.reduceEq, ↓reduceIte, Nat.reduceEqDiff, Nat.reduceAdd, Nat.reduceMul, Nat.reduceLeDiff, Nat.reduceSub, Nat.reduceLT, Int.reduceToNat, Int.reduceLT, Int.reduceLE, reduceCtorEq]
          rw [hk]
          exact qo
      · have hk := pln_keep hp (Or.inr (by rw [hp']; intro h; exact e1 (Option.some.inj h).symm))
        have hne := pt_nb e1
        try simp only [r38_0, r38_1, r38_2, r38_3, r38_5, r38_6, r38_4, r38_7, r38_8, r38_9, c38, F38, l38_0, l38_1, q6, q0, q1, c0, c2, c3, c5, c6, c7, c8, hrd, hrd', n1, hne, Int.toNat_natCast, go_sem, Int.reduceTMod, Int.reduceTDiv, Int.reduceDiv, Int.reduceMod, Int.reduceAdd, Int.reduceSub, Int.reduceMul, Int.reduceNeg, Int.reducePow, Int.reduceEq, ↓reduceIte, Nat.reduceEqDiff, Nat.reduceAdd, Nat.reduceMul, Nat.reduceLeDiff, Nat.reduceSub, Nat.reduceLT, Int.reduceToNat, Int.reduceLT, Int.reduceLE, reduceCtorEq]
        repeat' ((first | refine FK_split (fun h_ => ?_) (fun h_ => ?_) | refine GK_split (fun h_ => ?_) (fun h_ => ?_) | refine ite_both (fun h_ => ?_) (fun h_ => ?_)) <;> (try simp only [decide_eq_true_eq, decide_eq_false_iff_not, Bool.not_true, Bool.not_false, Bool.not_eq_true', Bool.not_eq_false', Bool.not_eq_eq_eq_not, Decidable.not_not] at h_) <;> (try simp only [r38_0, r38_1, r38_2, r38_3, r38_5, r38_6, r38_4, r38_7, r38_8, r38_9, c38, F38, l38_0, l38_1, q6, q0, q1, c0, c2, c3, c5, c6, c7, c8, hrd, hrd', n1, hne, Int.toNat_natCast, h_, go_sem, Int.reduceTMod, Int.reduceTDiv, Int.reduceDiv, Int.reduceMod, Int.reduceAdd, Int.reduceSub, Int.reduceMul, Int.reduceNeg, Int.reducePow, Int.reduceEq, ↓reduceIte, Nat.reduceEqDiff, Nat.reduceAdd, Nat.reduceMul, Nat.reduceLeDiff, Nat.reduceSub, Nat.reduceLT, Int.reduceToNat, Int.reduceLT, Int.reduceLE, reduceCtorEq]))
        refine K_push cs2 (by decide) (p := p) (o := true) qo (by omega) (fun id h1 h2 => by simp only [na_0 h2, na_ne h2, go_sem, Int.reduceTMod, Int.reduceTDiv, Int.reduceDiv, Int.reduceMod, Int.reduceAdd, Int.reduceSub, Int.reduceMul, Int.reduceNeg, Int.reducePow, Int.reduceEq, ↓reduceIte, Nat.reduceEqDiff, Nat.reduceAdd, Nat.reduceMul, Nat.reduceLeDiff, Nat.reduceSub, Nat.reduceLT, Int.reduceToNat, Int.reduceLT, Int.reduceLE, reduceCtorEq]) (by simp only [go_sem, Int.reduceTMod, Int.reduceTDiv, Int.reduceDiv, Int.reduceMod, Int.reduceAdd, Int.reduceSub, Int.reduceMul, Int.reduceNeg, Int.reducePow, Int.reduceEq, ↓reduceIte, Nat.reduceEqDiff, Nat.reduceAdd, Nat.reduceMul, Nat.reduceLeDiff, Nat.reduceSub, Nat.reduceLT, Int.reduceToNat, Int.reduceLT, Int.reduceLE, reduceCtorEq]) (by omega) (by omega) ?_
        intro r' m' ho h1 h2
        try simp only [r38_0, r38_1, r38_2, r38_3, r38_5, r38_6, r38_4, r38_7, r38_8, r38_9, c38, F38, q6, q0, q1, c7, go_sem, Int.reduceTMod, Int.reduceTDiv, Int.reduceDiv, Int.reduceMod, Int.reduceAdd, Int.reduceSub, Int.reduceMul, Int.reduceNeg, Int.reducePow, Int.reduceEq, ↓reduceIte, Nat.reduceEqDiff, Nat.reduceAdd, Nat.reduceMul, Nat.reduceLeDiff, Nat.reduceSub, Nat.reduceLT, Int.reduceToNat, Int.reduceLT, Int.reduceLE, reduceCtorEq]
        repeat' ((first | refine FK_split (fun h_ => ?_) (fun h_ => ?_) | refine GK_split (fun h_ => ?_) (fun h_ => ?_) | refine ite_both (fun h_ => ?_) (fun h_ => ?_)) <;> (try simp only [decide_eq_true_eq, decide_eq_false_iff_not, Bool.not_true, Bool.not_false, Bool.not_eq_true', Bool.not_eq_false', Bool.not_eq_eq_eq_not, Decidable.not_not] at h_) <;> (try simp only [r38_0, r38_1, r38_2, r38_3, r38_5, r38_6, r38_4, r38_7, r38_8, r38_9, c38, F38, q6, q0, q1, c7, h_, go_sem, Int.reduceTMod, Int.reduceTDiv, Int.reduceDiv, Int.reduceMod, Int.reduceAdd, Int.reduceSub, Int.reduceMul, Int.reduceNeg, Int.reducePow, Int.reduceEq, ↓reduceIte, Nat.reduceEqDiff, Nat.reduceAdd, Nat.reduceMul, Nat.reduceLeDiff, Nat.reduceSub, Nat.reduceLT, Int.reduceToNat, Int.reduceLT, Int.reduceLE, reduceCtorEq]))
        refine next _ ⟨?_, ?_, ?_, ?_, ?_, ?_⟩
        · simp only [go_sem, Int.reduceTMod, Int.reduceTDiv, Int.reduceDiv, Int.reduceMod, Int.reduceAdd, Int.reduceSub, Int.reduceMul, Int.reduceNeg, Int.reducePow, Int.reduceEq, ↓reduceIte, Nat.reduceEqDiff, Nat.reduceAdd, Nat.reduceMul, Nat.reduceLeDiff, Nat.reduceSub, Nat.reduceLT, Int.reduceToNat, Int.reduceLT, Int.reduceLE, reduceCtorEq]
        · simp only [q0, hr1, go_sem, Int.reduceTMod, Int.reduceTDiv, Int.reduceDiv, Int.reduceMod, Int.reduceAdd, Int.reduceSub, Int.reduceMul, Int.reduceNeg, Int.reducePow, Int.reduceEq, ↓reduceIte, Nat.reduceEqDiff, Nat.reduceAdd, Nat.reduceMul, Nat.reduceLeDiff, Nat.reduceSub, Nat.reduceLT, Int.reduceToNat, Int.reduceLT, Int.reduceLE, reduceCtorEq]
        · simp only [q1, go_sem, Int.reduceTMod, Int.reduceTDiv, Int.reduceDiv, Int.reduceMod, Int.reduceAdd, Int.reduceSub, Int.reduceMul, Int.reduceNeg, Int.reducePow, Int.reduceEq, ↓reduceIte, Nat.reduceEqDiff, Nat.reduceAdd, Nat.reduceMul, Nat.reduceLeDiff, Nat.reduceSub, Nat.reduceLT, Int.reduceToNat, Int.reduceLT, Int.reduceLE, reduceCtorEq]
        · simp only [go_sem, Int.reduceTMod, Int.reduceTDiv, Int.reduceDiv, Int.reduceMod, Int.reduceAdd, Int.reduceSub, Int.reduceMul, Int.reduceNeg, Int.reducePow, Int.reduceEq, ↓reduceIte, Nat.reduceEqDiff, Nat.reduceAdd, Nat.reduceMul, Nat.reduceLeDiff, Nat.reduceSub, Nat.reduceLT, Int.reduceToNat, Int.reduceLT, Int.reduceLE, reduceCtorEq]
          omega
        · intro id hid
          simp only
          rw [h1 id hid]
          simp only [na_0 (show id < N by omega), na_ne (show id < N by omega), qm id hid, go_sem, Int.reduceTMod, Int.reduceTDiv, Int.reduceDiv, Int.reduceMod, Int.reduceAdd, Int.reduceSub, Int.reduceMul, Int.reduceNeg, Int.reducePow, Int.reduceEq, ↓reduceIte, Nat.reduceEqDiff, Nat.reduceAdd, Nat.reduceMul, Nat.reduceLeDiff, Nat.reduceSub, Nat.reduceLT, Int.reduceToNat, Int.reduceLT, Int.reduceLE, reduceCtorEq]
        · simp only [go_sem, Int.reduceTMod, Int.reduceTDiv, Int.reduceDiv, Int.reduceMod, Int.reduceAdd, Int.reduceSub, Int.reduceMul, Int.reduceNeg, Int.reducePow, Int.reduceEq, ↓reduceIte, Nat.reduceEqDiff, Nat.reduceAdd, Nat.reduceMul, Nat.reduceLeDiff, Nat.reduceSub, Nat.reduceLT, Int.reduceToNat, Int.reduceLT, Int.reduceLE, reduceCtorEq]
          rw [hk]
          exact ho
  · obtain ⟨e, M, N⟩ := s
    obtain ⟨q6, q0, q1, qn, qm, qo⟩ := hs
    simp only at q6 q0 q1 qn qm qo
    have c2 : ((l.length : Int) < (l.length : Int)) = False := eq_false (by omega)
    have ht : List.take l.length l = l := List.take_length
    try simp only [r38_0, r38_1, r38_2, r38_3, r38_5, r38_6, r38_4, r38_7, r38_8, r38_9, c38, F38, l38_0, l38_1, q6, q0, q1, hlen, c2, XK_loop, go_sem, Int.reduceTMod, Int.reduceTDiv, Int.reduceDiv, Int.reduceMod, Int.reduceAdd, Int.reduceSub, Int.reduceMul, Int.reduceNeg, Int.reducePow, Int.reduceEq, ↓reduceIte, Nat.reduceEqDiff, Nat.reduceAdd, Nat.reduceMul, Nat.reduceLeDiff, Nat.reduceSub, Nat.reduceLT, Int.reduceToNat, Int.reduceLT, Int.reduceLE, reduceCtorEq]
    repeat' ((first | refine FK_split (fun h_ => ?_) (fun h_ => ?_) | refine GK_split (fun h_ => ?_) (fun h_ => ?_) | refine ite_both (fun h_ => ?_) (fun h_ => ?_)) <;> (try simp only [decide_eq_true_eq, decide_eq_false_iff_not, Bool.not_true, Bool.not_false, Bool.not_eq_true', Bool.not_eq_false', Bool.not_eq_eq_eq_not, Decidable.not_not] at h_) <;> (try simp only [r38_0, r38_1, r38_2, r38_3, r38_5, r38_6, r38_4, r38_7, r38_8, r38_9, c38, F38, l38_0, l38_1, q6, q0, q1, hlen, c2, XK_loop, h_, go_sem, Int.reduceTMod, Int.reduceTDiv, Int.reduceDiv, Int.reduceMod, Int.reduceAdd, Int.reduceSub, Int.reduceMul, Int.reduceNeg, Int.reducePow, Int.reduceEq, ↓reduceIte, Nat.reduceEqDiff, Nat.reduceAdd, Nat.reduceMul, Nat.reduceLeDiff, Nat.reduceSub, Nat.reduceLT, Int.reduceToNat, Int.reduceLT, Int.reduceLE, reduceCtorEq]))
    exact ⟨qo, qn⟩
  · simp only [go_sem, Int.reduceTMod, Int.reduceTDiv, Int.reduceDiv, Int.reduceMod, Int.reduceAdd, Int.reduceSub, Int.reduceMul, Int.reduceNeg, Int.reducePow, Int.reduceEq, ↓reduceIte, Nat.reduceEqDiff, Nat.reduceAdd, Nat.reduceMul, Nat.reduceLeDiff, Nat.reduceSub, Nat.reduceLT, Int.reduceToNat, Int.reduceLT, Int.reduceLE, reduceCtorEq]
    exact ⟨by omega, fun _ _ => trivial, OL.nil⟩

/- Rows of points cloned, and packed in place. Conditions: those that each theorem names. -/
open Go Go.Proofs
set_option linter.unusedSimpArgs false
set_option linter.unusedVariables false

/-- A slice of the call's own: the front of its block. -/
def PL (base : Nat) (m : Mem) (n : Nat) (r : Reg) (l : List Pt) : Prop :=
  (r = rnil ∧ l = []) ∨ ∃ id cap b, r = .one (.sl id 0 l.length cap 2) ∧ base ≤ id ∧ id < n ∧ m id = some ⟨b, true⟩ ∧ rd m id 0 (l.length * 2) = some (l.flatMap Pt.cs) ∧ (cap = none ∨ l = [])
theorem PL.rl {base : Nat} {m : Mem} {n : Nat} {r : Reg} {l : List Pt} (h : PL base m n r l) : RPt m n r l := by
  rcases h with h | ⟨id, cap, b, h1, h2, h3, h4, h5, h6⟩
  · exact Or.inl h
  · exact Or.inr ⟨id, 0, cap, h1, h3, h5⟩
theorem w_Clone (r : Reg) (l : List Pt) (m : Mem) (n : Nat) (hr : RPt m n r l) (hl : l.length < 4294967296) :
    Fn TA 36 [r] m n (fun r' m' n' => ((r' = rnil ∧ l = []) ∨ ∃ id cap, r' = .one (.sl id 0 l.length cap 2) ∧ n ≤ id ∧ id < n' ∧ m' id = some ⟨l.flatMap Pt.cs, true⟩ ∧ (cap = none ∨ l = [])) ∧ n ≤ n') := by
  refine Fn_ofK (fn := F36) rfl (by simp [F36]) ?_
  rcases hr with ⟨rfl, rfl⟩ | ⟨id, off, cap, rfl, hid, hrd⟩
  · skip
    try simp only [r36_0, r36_1, r36_2, r36_3, c36, F36, go_sem, Int.reduceTMod, Int.reduceTDiv, Int.reduceDiv, Int.reduceMod, Int.reduceAdd, Int.reduceSub, Int.reduceMul, Int.reduceNeg, Int.reducePow, Int.reduceEq, ↓reduceIte, Nat.reduceEqDiff, Nat.reduceAdd, Nat.reduceMul, Nat.reduceLeDiff, Nat.reduceSub, Nat.reduceLT, Int.reduceToNat, Int.reduceLT, Int.reduceLE, reduceCtorEq]
    repeat' ((first | refine FK_split (fun h_ => ?_) (fun h_ => ?_) | refine GK_split (fun h_ => ?_) (fun h_ => ?_) | refine ite_both (fun h_ => ?_) (fun h_ => ?_)) <;> (try simp only [decide_eq_true_eq, decide_eq_false_iff_not, Bool.not_true, Bool.not_false, Bool.not_eq_true', Bool.not_eq_false', Bool.not_eq_eq_eq_not, Decidable.not_not] at h_) <;> (try simp only [r36_0, r36_1, r36_2, r36_3, c36, F36, h_, go_sem, Int.reduceTMod, Int.reduceTDiv, Int.reduceDiv, Int.reduceMod, Int.reduceAdd, Int.reduceSub, Int.reduceMul, Int.reduceNeg, Int.reducePow, Int.reduceEq, ↓reduceIte, Nat.reduceEqDiff, Nat.reduceAdd, Nat.reduceMul, Nat.reduceLeDiff, Nat.reduceSub, Nat.reduceLT, Int.reduceToNat, Int.reduceLT, Int.reduceLE, reduceCtorEq]))
    exact ⟨Or.inl trivial, by omega⟩
  · have n1 := na_0 hid
    cases l with
    | nil =>
      simp only [List.length_nil, Nat.zero_mul, List.flatMap_nil] at hrd
      try simp only [r36_0, r36_1, r36_2, r36_3, c36, F36, evApp, newsOf, hrd, n1, List.length_nil, Nat.zero_mul, go_sem, Int.reduceTMod, Int.reduceTDiv, Int.reduceDiv, Int.reduceMod, Int.reduceAdd, Int.reduceSub, Int.reduceMul, Int.reduceNeg, Int.reducePow, Int.reduceEq, ↓reduceIte, Nat.reduceEqDiff, Nat.reduceAdd, Nat.reduceMul, Nat.reduceLeDiff, Nat.reduceSub, Nat.reduceLT, Int.reduceToNat, Int.reduceLT, Int.reduceLE, reduceCtorEq]
      repeat' ((first | refine FK_split (fun h_ => ?_) (fun h_ => ?_) | refine GK_split (fun h_ => ?_) (fun h_ => ?_) | refine ite_both (fun h_ => ?_) (fun h_ => ?_)) <;> (try simp only [decide_eq_true_eq, decide_eq_false_iff_not, Bool.not_true, Bool.not_false, Bool.not_eq_true', Bool.not_eq_false', Bool.not_eq_eq_eq_not, Decidable.not_not] at h_) <;> (try simp only [r36_0, r36_1, r36_2, r36_3, c36, F36, evApp, newsOf, hrd, n1, List.length_nil, Nat.zero_mul, h_, go_sem, Int.reduceTMod, Int.reduceTDiv, Int.reduceDiv, Int.reduceMod, Int.reduceAdd, Int.reduceSub, Int.reduceMul, Int.reduceNeg, Int.reducePow, Int.reduceEq, ↓reduceIte, Nat.reduceEqDiff, Nat.reduceAdd, Nat.reduceMul, Nat.reduceLeDiff, Nat.reduceSub, Nat.reduceLT, Int.reduceToNat, Int.reduceLT, Int.reduceLE, reduceCtorEq]))
      exact ⟨Or.inr ⟨n, some 0, rfl, by omega, by omega, by simp only [List.flatMap_nil, go_sem, Int.reduceTMod, Int.reduceTDiv, Int.reduceDiv, Int.reduceMod, Int.reduceAdd, Int.reduceSub, Int.reduceMul, Int.reduceNeg, Int.reducePow, Int.reduceEq, ↓reduceIte, Nat.reduceEqDiff, Nat.reduceAdd, Nat.reduceMul, Nat.reduceLeDiff, Nat.reduceSub, Nat.reduceLT, Int.reduceToNat, Int.reduceLT, Int.reduceLE, reduceCtorEq], Or.inr trivial⟩, by omega⟩
    | cons p l =>
      rw [List.length_cons] at hrd
      have z1 : (l.length + 1 = 0) = False := eq_false (by omega)
      have z2 : (l.length + 1 ≤ 4294967296) = True := eq_true (by rw [List.length_cons] at hl; omega)
      have z3 : (0 + (l.length + 1) ≤ 0) = False := eq_false (by omega)
      try simp only [r36_0, r36_1, r36_2, r36_3, c36, F36, evApp, newsOf, hrd, n1, List.length_cons, z1, z2, z3, Nat.zero_add, Nat.zero_mul, go_sem, Int.reduceTMod, Int.reduceTDiv, Int.reduceDiv, Int.reduceMod, Int.reduceAdd, Int.reduceSub, Int.reduceMul, Int.reduceNeg, Int.reducePow, Int.reduceEq, ↓reduceIte, Nat.reduceEqDiff, Nat.reduceAdd, Nat.reduceMul, Nat.reduceLeDiff, Nat.reduceSub, Nat.reduceLT, Int.reduceToNat, Int.reduceLT, Int.reduceLE, reduceCtorEq]
      repeat' ((first | refine FK_split (fun h_ => ?_) (fun h_ => ?_) | refine GK_split (fun h_ => ?_) (fun h_ => ?_) | refine ite_both (fun h_ => ?_) (fun h_ => ?_)) <;> (try simp only [decide_eq_true_eq, decide_eq_false_iff_not, Bool.not_true, Bool.not_false, Bool.not_eq_true', Bool.not_eq_false', Bool.not_eq_eq_eq_not, Decidable.not_not] at h_) <;> (try simp only [r36_0, r36_1, r36_2, r36_3, c36, F36, evApp, newsOf, hrd, n1, List.length_cons, z1, z2, z3, Nat.zero_add, Nat.zero_mul, h_, go_sem, Int.reduceTMod, Int.reduceTDiv, Int.reduceDiv, Int.reduceMod, Int.reduceAdd, Int.reduceSub, Int.reduceMul, Int.reduceNeg, Int.reducePow, Int.reduceEq, ↓reduceIte, Nat.reduceEqDiff, Nat.reduceAdd, Nat.reduceMul, Nat.reduceLeDiff, Nat.reduceSub, Nat.reduceLT, Int.reduceToNat, Int.reduceLT, Int.reduceLE, reduceCtorEq]))
      exact ⟨Or.inr ⟨n + 1, none, rfl, by omega, by omega, by simp only [List.flatMap_nil, go_sem, Int.reduceTMod, Int.reduceTDiv, Int.reduceDiv, Int.reduceMod, Int.reduceAdd, Int.reduceSub, Int.reduceMul, Int.reduceNeg, Int.reducePow, Int.reduceEq, ↓reduceIte, Nat.reduceEqDiff, Nat.reduceAdd, Nat.reduceMul, Nat.reduceLeDiff, Nat.reduceSub, Nat.reduceLT, Int.reduceToNat, Int.reduceLT, Int.reduceLE, reduceCtorEq], Or.inl rfl⟩, by omega⟩

end Go.Proofs.Ytoakdmjpbachdaa.Sy
